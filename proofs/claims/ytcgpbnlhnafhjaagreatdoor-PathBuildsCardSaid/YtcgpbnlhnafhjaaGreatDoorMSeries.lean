/-
  The squares of the sine and the cosine add up to the square of the scale, but for a small part. No program.
-/
import Derived.Test.YtcgpbnlhnafhjaaGreatDoorMPlain
namespace Go.Proofs.YtcgpbnlhnafhjaaGreatDoor
set_option linter.unusedVariables false
theorem hstep{u U s v s' n P A:Int}(hu:0≤u)(hU:u≤U)(hP:0≤P)(hn:0≤n)(hA: -P≤P*s-A∧P*s-A≤P)(hv: -U≤2*(U*v-u*s)∧2*(U*v-u*s)≤U)
 (hs: -n≤2*(n*s'-(n*U-v))∧2*(n*s'-(n*U-v))≤n):
 -(P*U*(n+3))≤2*(n*P*U*s'-(n*P*U*U-u*A))∧2*(n*P*U*s'-(n*P*U*U-u*A))≤P*U*(n+3):=by
 have e:n*P*U*s'-(n*P*U*U-u*A)=P*U*(n*s'-(n*U-v))-P*(U*v-u*s)-u*(P*s-A):=by grind
 have hPU:0≤P*U:=Int.mul_nonneg hP DL;have a1:=Int.mul_le_mul_of_nonneg_left hs.1 hPU;have a2:=Int.mul_le_mul_of_nonneg_left hs.2 hPU;have b1:=Int.mul_le_mul_of_nonneg_left hv.1 hP;have b2:=Int.mul_le_mul_of_nonneg_left hv.2 hP;have c1:=Int.mul_le_mul_of_nonneg_left hA.1 hu;have c2:=Int.mul_le_mul_of_nonneg_left hA.2 hu;have d:=Int.mul_le_mul_of_nonneg_right hU hP;have e1:P*U*(2*(n*s'-(n*U-v)))=2*(P*U*(n*s'-(n*U-v))):=by grind
 have e2:P*(2*(U*v-u*s))=2*(P*(U*v-u*s)):=by grind
 have e3:P*U*(n+3)=P*U*n+3*(P*U):=by grind
 have e4:U*P=P*U:=Int.mul_comm _ _;have e5:P*U* -n= -(P*U*n):=by grind
 have e6:P* -U= -(P*U):=by grind
 have e7:u* -P= -(u*P):=by grind
 rw[e,e3];omega
section
variable{u:Int}
theorem Jg{x:Int}(h:x≤16200000):kN x=tH x:=if_pos h
theorem YM{x:Int}(h:0≤x)(h2:x≤16200000):kN (32400000-x)=vo x:=by
 by_cases h0:x=16200000
 ·subst h0;decide
 ·unfold kN;rw[if_neg DL];congr 1;omega
end
theorem eY(n:Int): -1073741824≤2*(vW 2 n 1073741824*1073741824-n)∧2*(vW 2 n 1073741824*1073741824-n)≤1073741824:=by
 have:=Ue n 1073741824 DQ;simpa using this
theorem pV{x v X V:Int}(hx: -X≤x∧x≤X)(hv: -V≤v∧v≤V): -(X*V)≤x*v∧x*v≤X*V:=by
 have hX:0≤X:=DL;have hV:0≤V:=DL;have a:=Int.mul_nonneg (show 0≤X-x by omega) (show 0≤V-v by omega);have b:=Int.mul_nonneg (show 0≤X+x by omega) (show 0≤V+v by omega);have c:=Int.mul_nonneg (show 0≤X-x by omega) (show 0≤V+v by omega);have d:=Int.mul_nonneg (show 0≤X+x by omega) (show 0≤V-v by omega);have e1:(X-x)*(V-v)=X*V-X*v-x*V+x*v:=by grind
 have e2:(X+x)*(V+v)=X*V+X*v+x*V+x*v:=by grind
 have e3:(X-x)*(V+v)=X*V+X*v-x*V-x*v:=by grind
 have e4:(X+x)*(V-v)=X*V-X*v+x*V-x*v:=by grind
 omega
def mp:Int:=15511210043330985984000000*2147483648^25
def gp:List Int:=[39916800*2147483648^10,-6652800*2147483648^8,332640*2147483648^6,-7920*2147483648^4,110*2147483648^2,-1]
def hp:List Int:=[3628800*2147483648^10,-1814400*2147483648^8,151200*2147483648^6,-5040*2147483648^4,90*2147483648^2,-1]
def BU:List Int:=[3628800*2147483648^10,0,-1814400*2147483648^8,0,151200*2147483648^6,0,-5040*2147483648^4,0,90*2147483648^2,0,-1]
def WC(k:Int)(p P:Int):Prop:= -(k*mp)≤10*(mp*p-1073741824*P)∧10*(mp*p-1073741824*P)≤k*mp
theorem Uz{a:Int}(h:0≤a)(h2:a≤32400000):jO a=kN a:=by
 unfold jO;rw[mI h DL,if_pos h2]
theorem Qo(a b:Int)(h:norm a=norm b):jO a=jO b:=by unfold jO;rw[h]
theorem jH(a:Int):jO (a+32400000)=yF a:=Qo _ _ (by rw[VH];unfold norm;omega)
theorem BP(a:Int):jO (a+64800000)= -jO a:=by
 have hb:=zH a;have e:norm (a+64800000)=if norm a<64800000 then norm a+64800000 else norm a-64800000:=by unfold norm;split<;>omega
 have e0:kN 0=0:=DQ;unfold jO;rw[e];generalize norm a=b at*;by_cases h1:b≤32400000
 ·rw[if_pos (show b<64800000 by omega),if_pos h1,if_neg DL];by_cases h0:b=0
  ·subst h0;decide
  ·rw[if_neg DL,if_pos DL,show b+64800000-64800000=b from by omega]
 ·by_cases h2:b≤64800000
  ·by_cases h0:b=64800000
   ·subst h0;decide
   ·rw[if_pos (show b<64800000 by omega),if_neg DL,if_neg DL,if_neg DL,if_neg h1,if_pos h2,show 129600000-(b+64800000)=64800000-b from by omega]
  ·rw[if_neg (show¬b<64800000 by omega)];by_cases h3:b≤97200000
   ·rw[if_pos DL,if_neg h1,if_neg h2,if_pos h3,Int.neg_neg]
   ·rw[if_neg DL,if_pos DL,if_neg h1,if_neg h2,if_neg h3,Int.neg_neg,show 64800000-(b-64800000)=129600000-b from by omega]
theorem km(a:Int):yF (a+32400000)= -jO a:=by
 rw[←jH,show a+32400000+32400000=a+64800000 from by omega,BP]
theorem TJ(a b:Int)(h:norm a=norm b):yF a=yF b:=by
 rw[←jH,←jH];exact Qo _ _ (by unfold norm at*;omega)
def WD(a b:Int):Prop:=
 (-13958643712≤jO a*yF b+yF a*jO b-1073741824*jO (a+b)∧jO a*yF b+yF a*jO b-1073741824*jO (a+b)≤13958643712)∧
 (-13958643712≤yF a*yF b-jO a*jO b-1073741824*yF (a+b)∧yF a*yF b-jO a*jO b-1073741824*yF (a+b)≤13958643712)
theorem WC.neg{k p P:Int}(h:WC k p P):WC k (-p) (-P):=by
 unfold WC at*;rw[Int.mul_neg,Int.mul_neg];omega
theorem WD.turn{a b:Int}(h:WD a b):WD (a+32400000) b:=by
 unfold WD at*;rw[show a+32400000+b=a+b+32400000 from by omega,jH,km,jH,km];have e1:yF a*yF b+ -jO a*jO b=yF a*yF b-jO a*jO b:=by grind
 have e2: -jO a*yF b-yF a*jO b= -(jO a*yF b+yF a*jO b):=by grind
 rw[e1,e2];omega
theorem WE(a:Int):jO (-a)= -jO a:=by
 have hb:=zH a;have e:norm (-a)=if norm a=0 then 0 else 129600000-norm a:=by unfold norm;split<;>omega
 have e0:kN 0=0:=DQ;unfold jO;rw[e];generalize norm a=b at*;by_cases h0:b=0
 ·subst h0;decide
 ·rw[if_neg h0];by_cases h1:b≤32400000
  ·rw[if_pos h1];by_cases h:b=32400000
   ·subst h;decide
   ·rw[if_neg DL,if_neg DL,if_neg DL,show 129600000-(129600000-b)=b from by omega]
  ·by_cases h2:b≤64800000
   ·rw[if_neg h1,if_pos h2];by_cases h:b=64800000
    ·subst h;decide
    ·rw[if_neg DL,if_neg DL,if_pos DL,show 129600000-b-64800000=64800000-b from by omega]
   ·by_cases h3:b≤97200000
    ·rw[if_neg h1,if_neg h2,if_pos h3,Int.neg_neg];by_cases h:b=97200000
     ·subst h;decide
     ·rw[if_neg DL,if_pos DL,show 64800000-(129600000-b)=b-64800000 from by omega]
    ·rw[if_neg h1,if_neg h2,if_neg h3,Int.neg_neg,if_pos DL]
theorem WF(a:Int):yF (-a)=yF a:=by
 rw[←jH,show-a+32400000= -(a+64800000)+97200000-0 from by omega];have h1:jO (-(a+64800000)+97200000-0)=jO (-(a-32400000)):=Qo _ _ (by unfold norm;omega);rw[h1,WE];have h2:=km (a-32400000);rw[show a-32400000+32400000=a from by omega]at h2;omega
theorem UC{a:Int}(h:0≤a)(h2:a<16200000):tH (a+1)-tH a≤54∧vo a-vo (a+1)≤84:=by
 have ht:=Qi h DL;have ht':=Qi (a:=a+1) DL DL;have hd:tA a≤tA (a+1)∧tA (a+1)≤tA a+105:=by unfold tA;omega
 have hu:=tI ht.1 ht.2;have hu':=tI ht'.1 ht'.2;have hr:=JP hu.1 hu.2;have hr':=JP hu'.1 hu'.2;unfold tH vo uA;generalize tA (a+1)=t' at*;generalize tA a=t at*;have htt:0≤t*t:=jk t;have e:t'*t'-t*t=(t'-t)*(t'+t):=by grind
 have hm:(t'-t)*(t'+t)≤105*3373259426:=Int.mul_le_mul DL DL DL DL;have um:=aD ht.1 hd.1;have ud:zn t' t'≤zn t t+166:=by unfold zn;omega
 have rm:xQ (zn t' t')≤xQ (zn t t):=by
  have: -xQ (zn t t)≤ -xQ (zn t' t'):=YL (f:=fun x=> -xQ x) (lo:=0) (hi:=1325000000) (fun x a b=>by
   have:=ZU a b;unfold iQ at this
   show-xQ x≤ -xQ (x+1)
   unfold xQ ja
   omega) hu.1 um hu'.2
  omega
 have cm:Zo (zn t t)≤Zo (zn t' t')+166:=by
  have:Zo (zn t t)+zn t t≤Zo (zn t' t')+zn t' t':=YL (f:=fun x=>Zo x+x) (lo:=0) (hi:=1325000000) (fun x a b=>by
   have:=GM a b
   show Zo x+x≤Zo (x+1)+(x+1)
   omega) hu.1 um hu'.2
  omega
 have s1:t'*xQ (zn t' t')≤t'*xQ (zn t t):=Int.mul_le_mul_of_nonneg_left rm ht'.1;have s2:(t'-t)*xQ (zn t t)≤105*2147483648:=Int.mul_le_mul DL hr.2 DL DQ;have e2:(t'-t)*xQ (zn t t)=t'*xQ (zn t t)-t*xQ (zn t t):=by grind
 constructor
 ·generalize xQ (zn t' t')=r' at*;generalize xQ (zn t t)=r at*;unfold zn;omega
 ·omega
theorem VX{a b:Int}(h:0≤a)(h1:a≤b)(h2:b≤32400000):jO a≤jO b:=by
 rw[Uz h DL,Uz DL h2];by_cases hb:b≤16200000
 ·rw[Jg DL,Jg hb];exact QG h h1 hb
 ·have eb:=YM (x:=32400000-b) DL DL;rw[show 32400000-(32400000-b)=b from by omega]at eb;rw[eb];by_cases ha:a≤16200000
  ·rw[Jg ha];have:=mM h ha;have:=Ub (a:=32400000-b) DL DL;omega
  ·have ea:=YM (x:=32400000-a) DL DL;rw[show 32400000-(32400000-a)=a from by omega]at ea;rw[ea];exact gZ DL DL DL
theorem bI(a:Int):jO (32400000-a)=yF a:=by
 rw[show 32400000-a= -a+32400000 from by omega,jH,WF]
theorem pW(a:Int):jO (norm a)=jO a:=Qo _ _ (by unfold norm;omega)
theorem pX(a:Int):yF (norm a)=yF a:=TJ _ _ (by unfold norm;omega)
def big(p q:Int):Int:=max (p.natAbs:Int) q.natAbs
def lM(a:Int):Prop:=(-84≤jO (a+1)-jO a∧jO (a+1)-jO a≤84)∧(-84≤yF (a+1)-yF a∧yF (a+1)-yF a≤84)
theorem KS{a:Int}(h:0≤a)(h2:a<32400000): -84≤jO (a+1)-jO a∧jO (a+1)-jO a≤84:=by
 have hm:=VX h (show a≤a+1 by omega) DL;refine⟨DL,?_⟩;rw[Uz h DL,Uz DL DL];by_cases h3:a<16200000
 ·have:=(UC h h3).1;rw[Jg DL,Jg DL];omega
 ·have e1:=YM (x:=32400000-a) DL DL;have e2:=YM (x:=32400000-(a+1)) DL DL;rw[show 32400000-(32400000-a)=a from by omega]at e1;rw[show 32400000-(32400000-(a+1))=a+1 from by omega]at e2;rw[e1,e2];have:=(UC (a:=32400000-(a+1)) DL DL).2;rw[show 32400000-(a+1)+1=32400000-a from by omega]at this;exact this
theorem nZ{a:Int}(h:0≤a)(h2:a<32400000):lM a:=by
 refine⟨KS h h2,?_⟩;have:=KS (a:=32400000-(a+1)) DL DL;rw[show 32400000-(a+1)+1=32400000-a from by omega,bI,bI]at this;omega
theorem lM.turn{a:Int}(h:lM a):lM (a+32400000):=by
 unfold lM at*;rw[show a+32400000+1=a+1+32400000 from by omega,jH,jH,km,km];omega
theorem Dn(a:Int):lM a:=by
 have hb:=zH a
 have e:lM (norm a):=by
  generalize norm a=n at*;by_cases h1:n<32400000
  ·exact nZ hb.1 h1
  ·by_cases h2:n<64800000
   ·have:=(nZ (a:=n-32400000) DL DL).turn
    rwa[show n-32400000+32400000=n from by omega]at this
   ·by_cases h3:n<97200000
    ·have:=(nZ (a:=n-64800000) DL DL).turn.turn
     rwa[show n-64800000+32400000+32400000=n from by omega]at this
    ·have:=(nZ (a:=n-97200000) DL DL).turn.turn.turn
     rwa[show n-97200000+32400000+32400000+32400000=n from by omega]at this
 unfold lM at*;rw[Qo (norm a+1) (a+1) (by unfold norm;omega),TJ (norm a+1) (a+1) (by unfold norm;omega),pW,pX]at e;exact e
theorem NH:∀(k:Nat) (a:Int),(-(84*(k:Int))≤jO (a+k)-jO a∧jO (a+k)-jO a≤84*k)∧(-(84*(k:Int))≤yF (a+k)-yF a∧yF (a+k)-yF a≤84*k)
 |0,a=>by simp
 |k+1,a=>by
  have h:=NH k a;have h1:=Dn (a+k);unfold lM at h1;rw[show a+((k+1:Nat):Int)=a+k+1 from by omega];omega
theorem JG(n d:Int)(hd:0<d):(vW 1 n d-1)*d<n∧n≤vW 1 n d*d:=by
 unfold vW;simp only[show(1:Nat)≠0 from by decide,if_false,if_true];have:=ZS (-n) d hd;generalize(-n).fdiv d=k at*;have e1:(-k-1)*d= -(k*d)-d:=by grind
 have e2: -k*d= -(k*d):=by grind
 omega
def jm(r d:Int):Int:=vW 1 (r*jO ((d.natAbs:Int)/2)) (yF ((d.natAbs:Int)/2))
def yJ:List Int:=[0,0,0,0,0,0,0,0,0,0]
def gX(bx b_y x y r m n:Int):List Int×Int:=
 if 54000000<(zJ x y).natAbs then(yJ,10)else
 if jm r (zJ x y)>m∨jm r (zJ x y)>n then(yJ,10)else
 if(zi bx b_y (zy x 64800000) (jm r (zJ x y))).2.2≠0 then(yJ,2)else
 if(zi bx b_y y (jm r (zJ x y))).2.2≠0 then(yJ,2)else
 if(zi (zi bx b_y (zy x 64800000) (jm r (zJ x y))).1 (zi bx b_y (zy x 64800000) (jm r (zJ x y))).2.1 (zy x (zD (zJ x y) 32400000)) r).2.2≠0 then(yJ,2)else
 ([(zi (zi bx b_y (zy x 64800000) (jm r (zJ x y))).1 (zi bx b_y (zy x 64800000) (jm r (zJ x y))).2.1 (zy x (zD (zJ x y) 32400000)) r).1,
   (zi (zi bx b_y (zy x 64800000) (jm r (zJ x y))).1 (zi bx b_y (zy x 64800000) (jm r (zJ x y))).2.1 (zy x (zD (zJ x y) 32400000)) r).2.1,
   r,zy x (-zD (zJ x y) 32400000),zJ x y,
   (zi bx b_y (zy x 64800000) (jm r (zJ x y))).1,(zi bx b_y (zy x 64800000) (jm r (zJ x y))).2.1,
   (zi bx b_y y (jm r (zJ x y))).1,(zi bx b_y y (jm r (zJ x y))).2.1,jm r (zJ x y)],0)
def bg(ax ay bx b_y cx cy r:Int):List Int×Int:=
 if !(qw ax ay&&qw bx b_y&&qw cx cy)then(yJ,1)else
 if r<1∨r>8000000 then(yJ,2)else
 if(ax=bx∧ay=b_y)∨(bx=cx∧b_y=cy)then(yJ,10)else
 gX bx b_y (jJ (bx-ax) (b_y-ay)) (jJ (cx-bx) (cy-b_y)) r (qY ax ay bx b_y) (qY bx b_y cx cy)
def Qa(cx cy r px py:Int)(right:Bool):Int:=
 zy (jJ (px-cx) (py-cy)) (if right then-jJ (vu (zV cx cy px py-r*r).toNat) r else jJ (vu (zV cx cy px py-r*r).toNat) r)
def Zj(cx cy r px py:Int)(right:Bool):Int×Int×Int:=
 if !(qw cx cy&&qw px py)then(0,0,1)else
 if r<1∨r>8000000 then(0,0,2)else
 if zV cx cy px py≤r*r then(0,0,10)else
 if(zi cx cy (Qa cx cy r px py right) r).2.2≠0 then(0,0,2)else
 ((zi cx cy (Qa cx cy r px py right) r).1,(zi cx cy (Qa cx cy r px py right) r).2.1,0)
def xp(right:Bool)(x y:Int):Int:=if right then(if vA true x y=0 then 129600000 else vA true x y)else-(if vA false x y=0 then 129600000 else vA false x y)
def Qb:List Int:=[0,0,0,0,0]
def yg(ax ay cx cy bx b_y:Int)(right:Bool):List Int×Int:=
 if !(qw ax ay&&qw cx cy&&qw bx b_y)then(Qb,1)else
 if qY cx cy ax ay=0∨qY cx cy bx b_y=0∨qY cx cy ax ay-qY cx cy bx b_y>8∨qY cx cy bx b_y-qY cx cy ax ay>8 then(Qb,10)else
 ([cx,cy,qY cx cy ax ay,jJ (ax-cx) (ay-cy),xp right (jJ (ax-cx) (ay-cy)) (jJ (bx-cx) (b_y-cy))],0)
theorem QA{h:Int}(h0:0≤h)(h1:h≤27000000):277000000≤yF h:=by
 rw[←bI];have:=VX (a:=5400000) (b:=32400000-h) DL DL DL;have e:277000000≤jO 5400000:=by decide+kernel
 omega
theorem Gs{h:Int}(h0:0≤h)(h1:h≤32400000):0≤jO h∧jO h≤84*h:=by
 have:=NH h.toNat 0;have e:((h.toNat:Nat):Int)=h:=DL;rw[e,Int.zero_add,show jO 0=0 from by decide+kernel]at this;have:=xy h0 h1;rw[Uz h0 h1];rw[Uz h0 h1]at*;omega
theorem Vp{r d:Int}(hr:0≤r)(hd:d.natAbs≤54000000):
 (jm r d-1)*yF ((d.natAbs:Int)/2)<r*jO ((d.natAbs:Int)/2)∧r*jO ((d.natAbs:Int)/2)≤jm r d*yF ((d.natAbs:Int)/2)∧0≤jm r d:=by
 have hc:=QA (h:=(d.natAbs:Int)/2) DL DL;have hs:=Gs (h:=(d.natAbs:Int)/2) DL DL;have h:=JG (r*jO ((d.natAbs:Int)/2)) (yF ((d.natAbs:Int)/2)) DL;refine⟨h.1,h.2,?_⟩;unfold jm;have hp:0≤r*jO ((d.natAbs:Int)/2):=Int.mul_nonneg hr hs.1;generalize vW 1 (r*jO ((d.natAbs:Int)/2)) (yF ((d.natAbs:Int)/2))=l at*;apply Classical.byContradiction;intro hn;have:l*yF ((d.natAbs:Int)/2)≤(-1)*yF ((d.natAbs:Int)/2):=Int.mul_le_mul_of_nonneg_right DL DL;omega
theorem rU{r d:Int}(hr:0≤r)(hr8:r≤8000000)(hd:d.natAbs≤54000000):jm r d≤40000000:=by
 have h:=Vp hr hd;have hc:=QA (h:=(d.natAbs:Int)/2) DL DL;have hs:=bH ((d.natAbs:Int)/2);apply Classical.byContradiction;intro hn
 have e1:r*jO ((d.natAbs:Int)/2)≤8000000*1073741824:=by
  have a:=Int.mul_le_mul_of_nonneg_left hs.2 hr;have b:r*1073741824≤8000000*1073741824:=Int.mul_le_mul_of_nonneg_right hr8 DL;omega
 have e2:40000000*yF ((d.natAbs:Int)/2)≤(jm r d-1)*yF ((d.natAbs:Int)/2):=Int.mul_le_mul_of_nonneg_right DL DL;omega
theorem KT{cx cy r f s:Int}(h:ur cx cy r f s=true):qX cx cy r f s=vW 2 (r*s.natAbs) 20626481:=by unfold qX;rw[if_pos h]
theorem Qc(cx cy r f s:Int):ur cx cy r f s=true↔(qw cx cy=true∧1≤r∧r≤8000000∧0≤f∧f<129600000∧ -129600000≤s∧s≤129600000):=by
 unfold ur;rw[Bool.and_eq_true,decide_eq_true_iff]
theorem uP(cx cy r f s:Int):0≤qX cx cy r f s∧qX cx cy r f s≤60000000:=by
 unfold qX;split
 ·rename_i h;obtain⟨_,h1,h2,_,_,h3,h4⟩:=(Qc _ _ _ _ _).1 h;rw[aJ];have:0≤r*(s.natAbs:Int):=Int.mul_nonneg DL DL;have:r*(s.natAbs:Int)≤8000000*129600000:=Int.mul_le_mul h2 DL DL DL;omega
 ·omega
theorem UX{px py c d:Int}(h:(zi px py c d).2.2=0):qw px py=true∧ -8000000≤d∧d≤8000000∧qw (px+Kt d c) (py+Ku d c)=true∧(zi px py c d).1=px+Kt d c∧(zi px py c d).2.1=py+Ku d c:=by
 unfold zi at h⊢;by_cases h1:qw px py=true
 ·rw[if_neg (by simp[h1])]at h⊢;by_cases h2:d>8000000∨d< -8000000
  ·rw[if_pos h2]at h;exact absurd h (fun h=>by cases h)
  ·rw[if_neg h2]at h⊢;by_cases h3:qw (px+Kt d c) (py+Ku d c)=true
   ·rw[if_pos h3];exact⟨h1,by omega,by omega,h3,rfl,rfl⟩
   ·rw[if_neg h3]at h;exact absurd h (fun h=>by cases h)
 ·rw[if_pos (by simp[h1])]at h;exact absurd h (fun h=>by cases h)
theorem Gt{l:List Int}{c:Int}(hc:c≠0)(h:((l,c):List Int×Int).2=0):False:=hc h
theorem rV{bx b_y x y r m n:Int}(h:(gX bx b_y x y r m n).2=0):
 (zJ x y).natAbs≤54000000∧jm r (zJ x y)≤m∧jm r (zJ x y)≤n∧∃cx cy sx sy ex ey,
   (gX bx b_y x y r m n).1=[cx,cy,r,zy x (-zD (zJ x y) 32400000),zJ x y,sx,sy,ex,ey,jm r (zJ x y)]∧
   sx=bx+Kt (jm r (zJ x y)) (zy x 64800000)∧sy=b_y+Ku (jm r (zJ x y)) (zy x 64800000)∧
   ex=bx+Kt (jm r (zJ x y)) y∧ey=b_y+Ku (jm r (zJ x y)) y∧
   cx=sx+Kt r (zy x (zD (zJ x y) 32400000))∧cy=sy+Ku r (zy x (zD (zJ x y) 32400000))∧
   qw cx cy=true∧qw sx sy=true∧qw ex ey=true:=by
 unfold gX at h⊢;by_cases h1:54000000<(zJ x y).natAbs
 ·rw[if_pos h1]at h;exact(Gt DQ h).elim
 rw[if_neg h1]at h⊢;by_cases h2:jm r (zJ x y)>m∨jm r (zJ x y)>n
 ·rw[if_pos h2]at h;exact(Gt DQ h).elim
 rw[if_neg h2]at h⊢;by_cases h3:(zi bx b_y (zy x 64800000) (jm r (zJ x y))).2.2≠0
 ·rw[if_pos h3]at h;exact(Gt DQ h).elim
 rw[if_neg h3]at h⊢;by_cases h4:(zi bx b_y y (jm r (zJ x y))).2.2≠0
 ·rw[if_pos h4]at h;exact(Gt DQ h).elim
 rw[if_neg h4]at h⊢;by_cases h5:(zi (zi bx b_y (zy x 64800000) (jm r (zJ x y))).1 (zi bx b_y (zy x 64800000) (jm r (zJ x y))).2.1 (zy x (zD (zJ x y) 32400000)) r).2.2≠0
 ·rw[if_pos h5]at h;exact(Gt DQ h).elim
 rw[if_neg h5];obtain⟨a1,a2,a3,a4,a5,a6⟩:=UX (Decidable.of_not_not h3);obtain⟨b1,b2,b3,b4,b5,b6⟩:=UX (Decidable.of_not_not h4);obtain⟨c1,c2,c3,c4,c5,c6⟩:=UX (Decidable.of_not_not h5);rw[a5,a6]at c1 c4 c5 c6;rw[a5,a6,b5,b6,c5,c6];exact⟨DL,DL,by omega,_,_,_,_,_,_,rfl,rfl,rfl,rfl,rfl,rfl,rfl,c4,a4,b4⟩
theorem ma{ax ay bx b_y cx cy r v0 v1 v2 v3 v4 v5 v6 v7 v8 v9:Int}(h:bg ax ay bx b_y cx cy r=([v0,v1,v2,v3,v4,v5,v6,v7,v8,v9],0)):ur v0 v1 v2 v3 v4=true:=by
 have h0:(bg ax ay bx b_y cx cy r).2=0:=by rw[h]
 have h:=h.symm;unfold bg at h h0;by_cases h1:(!(qw ax ay&&qw bx b_y&&qw cx cy))=true
 ·rw[if_pos h1]at h0;exact(Gt DQ h0).elim
 rw[if_neg h1]at h h0;by_cases h2:r<1∨r>8000000
 ·rw[if_pos h2]at h0;exact(Gt DQ h0).elim
 rw[if_neg h2]at h h0;by_cases h3:(ax=bx∧ay=b_y)∨(bx=cx∧b_y=cy)
 ·rw[if_pos h3]at h0;exact(Gt DQ h0).elim
 rw[if_neg h3]at h h0;obtain⟨g1,g2,g3,X,Y,sx,sy,ex,ey,g4,q1,q2,q3,q4,q5,q6,q7,q8,q9⟩:=rV h0;rw[←h]at g4;simp only[List.cons.injEq,and_true]at g4;obtain⟨rfl,rfl,rfl,rfl,rfl,rfl,rfl,rfl,rfl,rfl⟩:=g4;have hfb:=zH (qN ax ay bx b_y).1;exact(Qc _ _ _ _ _).2 ⟨q7,by omega,by omega,(zH _).1,(zH _).2,by omega,DL⟩
def uD(v b:Int):Int×Int:=
 if 1≤v∧v≤1000∧1≤b∧b≤3000 then
  (if(qR 1 (v*v*87431) (yF (b*3600)) (1000000*jO (b*3600))).2=0∧(qR 1 (v*v*87431) (yF (b*3600)) (1000000*jO (b*3600))).1≤8000000 then
    ((qR 1 (v*v*87431) (yF (b*3600)) (1000000*jO (b*3600))).1,0)else(0,2))
 else(0,2)
def WX(v b:Int):Int×Int:=
 if 1≤v∧v≤1000∧1≤b∧b≤3000 then qR 0 20626481000000 (jO (b*3600)) (87431*v*yF (b*3600))else(0,2)
theorem mf{x y:Int}(h:qw x y=true): -2000000≤x∧x≤2000000∧ -2000000≤y∧y≤2000000:=(gm x y).1 h
theorem rW(m:Int)(h:0<m):kJ m 0=0:=by
 unfold kJ;rw[cI (Wk m 0) Ma 0 (Nat.zero_le _) (.inl rfl) ?_]
 ·rfl
 ·intro d h1 h2;rw[wU]at h2;unfold Wk;refine decide_eq_false ?_;rw[Int.mul_zero];have:=VX (a:=1) (b:=d) DL DL DL;have e:0<jO 1:=by decide+kernel
  have:=Int.mul_pos (show 0<jO d by omega) h;omega
theorem Vq(m:Int)(h:0<m):jJ m 0=32400000:=by
 have:=rW m h;have e:((m.natAbs:Nat):Int)=m:=DL;unfold jJ kV;rw[if_pos DL,if_pos DL,if_pos DL,e];rw[show(((0:Int).natAbs:Nat):Int)=0 from rfl,this];rfl
theorem Zk(m:Int)(h:0<m):jJ 0 m=0:=by
 have:=rW m h;have e:((m.natAbs:Nat):Int)=m:=DL;unfold jJ kV;rw[if_pos DL,if_pos DL,if_neg DL,e];rw[show(((0:Int).natAbs:Nat):Int)=0 from rfl,this]
theorem PN(n r:Nat)(h1:r*r≤n)(h2:n<(r+1)*(r+1)):((vu n:Nat):Int)=r:=by rw[af h1 h2]
theorem YG{ax ay bx b_y:Int}(h:(qw ax ay&&qw bx b_y)=true)(r:Nat)(h1:r*r≤(zV ax ay bx b_y).toNat)(h2:(zV ax ay bx b_y).toNat<(r+1)*(r+1)):qY ax ay bx b_y=r:=by
 unfold qY;rw[h,if_pos rfl,PN _ r h1 h2]
theorem rX{ax ay bx b_y cx cy r:Int}(h:(qw ax ay&&qw bx b_y&&qw cx cy)=false):bg ax ay bx b_y cx cy r=(yJ,1):=by unfold bg;rw[h];rfl
theorem mg{ax ay bx b_y cx cy r:Int}(h:(qw ax ay&&qw bx b_y&&qw cx cy)=true)(h2:r<1∨r>8000000):bg ax ay bx b_y cx cy r=(yJ,2):=by unfold bg;rw[h,if_neg DS,if_pos h2]
theorem Gu{ax ay bx b_y cx cy r:Int}(h:(qw ax ay&&qw bx b_y&&qw cx cy)=true)(h2:¬(r<1∨r>8000000))(h3:(ax=bx∧ay=b_y)∨(bx=cx∧b_y=cy)):bg ax ay bx b_y cx cy r=(yJ,10):=by
 unfold bg;rw[h,if_neg DS,if_neg h2,if_pos h3]
theorem uQ{ax ay bx b_y:Int}(h1:qw ax ay=true)(h2:qw bx b_y=true)(h:¬(ax=bx∧ay=b_y)):qN ax ay bx b_y=(jJ (bx-ax) (b_y-ay),0):=by
 unfold qN;rw[h1,h2,if_neg DS,if_neg h]
theorem gY{ax ay bx b_y:Int}(h1:qw ax ay=true)(h2:qw bx b_y=true)(h:ax=bx∧ay=b_y):qN ax ay bx b_y=(0,10):=by
 unfold qN;rw[h1,h2,if_neg DS,if_pos h]
theorem rZ{ax ay bx b_y cx cy r:Int}(h0:qw ax ay=true)(h1:qw bx b_y=true)(hc:qw cx cy=true)(h2:¬(r<1∨r>8000000))(h3:¬(ax=bx∧ay=b_y))(h4:¬(bx=cx∧b_y=cy)):
 bg ax ay bx b_y cx cy r=gX bx b_y (qN ax ay bx b_y).1 (qN bx b_y cx cy).1 r (qY ax ay bx b_y) (qY bx b_y cx cy):=by
 rw[uQ h0 h1 h3,uQ h1 hc h4];unfold bg;rw[h0,h1,hc,if_neg DS,if_neg h2,if_neg DL]
theorem KU{bx b_y x y r m n d:Int}(hd:d=zJ x y)(h:54000000<d.natAbs):gX bx b_y x y r m n=(yJ,10):=by
 unfold gX;rw[←hd,if_pos h]
theorem Vs{bx b_y x y r m n d l:Int}(hd:d=zJ x y)(h:¬54000000<d.natAbs)(hl:l=jm r d)(h2:l>m∨l>n):gX bx b_y x y r m n=(yJ,10):=by
 unfold gX;rw[←hd,←hl,if_neg h,if_pos h2]
theorem Vu{bx b_y x y r m n d l sx sy e1 ex ey e2 kx ky e3:Int}(hd:d=zJ x y)(h:¬54000000<d.natAbs)(hl:l=jm r d)(h2:¬(l>m∨l>n))
 (h3:(sx,sy,e1)=zi bx b_y (zy x 64800000) l) (h4:(ex,ey,e2)=zi bx b_y y l) (h5:(kx,ky,e3)=zi sx sy (zy x (zD d 32400000)) r):
 gX bx b_y x y r m n=if e1≠0 then(yJ,2)else if e2≠0 then(yJ,2)else if e3≠0 then(yJ,2)else([kx,ky,r,zy x (-zD d 32400000),d,sx,sy,ex,ey,l],0):=by
 unfold gX;rw[←hd,←hl,if_neg h,if_neg h2,←h3,←h4];simp only;rw[←h5]
theorem YH{r d l:Int}(hr:1≤r)(hr8:r≤8000000)(hd:d.natAbs≤54000000)(hl:l=jm r d):qR 1 r (jO ((d.natAbs:Int)/2)) (yF ((d.natAbs:Int)/2))=(l,0)∧0≤l∧l≤40000000:=by
 have a:=Vp (r:=r) (d:=d) DL hd;have b:=rU (r:=r) (d:=d) DL hr8 hd;have hc:=QA (h:=(d.natAbs:Int)/2) DL DL;rw[←hl]at a b;refine⟨?_,a.2.2,b⟩;unfold jm at hl;unfold qR;rw[←hl,if_neg DL,if_pos];unfold Zp;exact decide_eq_true DL
section
variable{c:Bool}{ax ay bx b_y cx cy r f s L px py track speed o al e X Y C E:Int}{R:Int×Int}
end
structure El where
 c:Bool
 ax:Int
 ay:Int
 bx:Int
 b_y:Int
 cx:Int
 cy:Int
 r:Int
 f:Int
 s:Int
 L:Int
 n:Int
 g:Bool
def eO(px py qx qy:Int):Bool:=decide (16<((px-qx).natAbs:Int)∨16<((py-qy).natAbs:Int))
def Zc(cx cy r f s al px py:Int):Bool:=decide ((jp cx cy r f s al).2.2.2=0)&&eO px py (jp cx cy r f s al).1 (jp cx cy r f s al).2.1
def bK(c:Bool)(ax ay bx b_y cx cy r f s L:Int):Int:=
 if !(qw ax ay&&qw bx b_y)then 1 else
 if c then
  (if !ur cx cy r f s then 1 else if L<1∨¬L=qX cx cy r f s then 4 else
    if Zc cx cy r f s 0 ax ay||Zc cx cy r f s (qX cx cy r f s) bx b_y then 10 else 0)
 else(if¬(cx=0∧cy=0∧r=0∧f=0∧s=0)then 1 else if L<1∨¬L=qY ax ay bx b_y then 4 else 0)
def El.err(x:El):Int:=bK x.c x.ax x.ay x.bx x.b_y x.cx x.cy x.r x.f x.s x.L
def Qn(len:Int):Bool→Int→Int→Int→Int→List El→Int
 |_,_,_,_,sum,[]=>if len=sum then 0 else 4
 |first,en,bx,b_y,sum,x::l=>
  if¬x.err=0 then x.err else
  if x.n<en∨(first=true∧x.g=true)then 9 else
  if first=false∧x.g=false∧¬(x.ax=bx∧x.ay=b_y)then 10 else
  Qn len false x.n x.bx x.b_y (sum+x.L) l
def uV(l:List El)(len:Int):Int:=if 500<l.length then 3 else Qn len true 0 0 0 0 l
theorem VU{len en bx b_y sum:Int}{f:Bool}:Qn len f en bx b_y sum []=if len=sum then 0 else 4:=by unfold Qn;rfl
theorem uo{len en bx b_y sum:Int}{f:Bool}{x:El}{l:List El}:Qn len f en bx b_y sum (x::l)=
 if¬x.err=0 then x.err else if x.n<en∨(f=true∧x.g=true)then 9 else if f=false∧x.g=false∧¬(x.ax=bx∧x.ay=b_y)then 10 else Qn len false x.n x.bx x.b_y (sum+x.L) l:=by
 rw[Qn]
theorem eT{c:Bool}{ax ay bx b_y cx cy r f s L:Int}(h:bK c ax ay bx b_y cx cy r f s L=0):1≤L∧L≤60000000:=by
 have d:=uy ax ay bx b_y;have m:=uP cx cy r f s;unfold bK at h
 (repeat' split at h)<;>first|(cases h;done)|(constructor<;>omega)
set_option linter.unusedSimpArgs false
theorem JZ{len:Int}:∀{l:List El} {f:Bool} {en bx b_y sum:Int},Qn len f en bx b_y sum l=0→∀x∈l,x.err=0
 | [],_,_,_,_,_,_,x,hx=>by cases hx
 |y::l,f,en,bx,b_y,sum,h,x,hx=>by
  rw[uo]at h;by_cases h1:y.err=0
  ·rw[if_neg (by simp[h1])]at h;by_cases h2:y.n<en∨(f=true∧y.g=true)
   ·rw[if_pos h2]at h;cases h
   ·rw[if_neg h2]at h;by_cases h3:f=false∧y.g=false∧¬(y.ax=bx∧y.ay=b_y)
    ·rw[if_pos h3]at h;cases h
    ·rw[if_neg h3]at h;rcases List.mem_cons.1 hx with rfl|hx
     ·exact h1
     ·exact JZ h x hx
  ·rw[if_pos h1]at h;exact absurd h h1
theorem pR{l:List El}{len:Int}(h:uV l len=0){k:Nat}{x:El}(hx:l[k]? =some x):1≤x.L∧x.L≤60000000:=by
 unfold uV at h;by_cases h5:500<l.length
 ·rw[if_pos h5]at h;cases h
 ·rw[if_neg h5]at h;exact eT (JZ h x (List.mem_of_getElem? hx))
def kX:List El→Int
 | []=>0
 |x::l=>x.L+kX l
theorem VV:kX []=0:=rfl
theorem uq(x:El)(l:List El):kX (x::l)=x.L+kX l:=rfl
theorem mY{len:Int}:∀{l:List El} {f:Bool} {en bx b_y sum:Int},Qn len f en bx b_y sum l=0→
 (∀(i:Nat) (x:El),l[i]? =some x→en≤x.n)∧
 (∀(i:Nat) (x y:El),l[i]? =some x→l[i+1]? =some y→x.n≤y.n∧(y.g=false→y.ax=x.bx∧y.ay=x.b_y))∧
 (∀x:El,l[0]? =some x→(f=true→x.g=false))∧len=sum+kX l
 | [],f,en,bx,b_y,sum,h=>by
   rw[VU]at h;split at h
   ·rename_i hl;exact⟨DS,DS,by simp,by rw[VV];omega⟩
   ·cases h
 |z::l,f,en,bx,b_y,sum,h=>by
  rw[uo]at h;by_cases h1:z.err=0
  ·rw[if_neg (by simp[h1])]at h;by_cases h2:z.n<en∨(f=true∧z.g=true)
   ·rw[if_pos h2]at h;cases h
   ·rw[if_neg h2]at h;by_cases h3:f=false∧z.g=false∧¬(z.ax=bx∧z.ay=b_y)
    ·rw[if_pos h3]at h;cases h
    ·rw[if_neg h3]at h;obtain⟨a,b,c,d⟩:=mY h
     have h4:f=true→z.g=false:=fun hf=>by
      cases hg:z.g with
      |false=>rfl
      |true=>exact absurd (Or.inr ⟨hf,hg⟩) h2
     have h5:en≤z.n:=DL;refine⟨?_,?_,?_,?_⟩
     ·intro i x hx
      cases i with
      |zero=>simp at hx;subst hx;exact h5
      |succ i=>simp at hx;exact Int.le_trans h5 (a i x hx)
     ·intro i x y hx hy
      cases i with
      |zero=>
       simp at hx hy;subst hx;refine⟨a 0 y hy,fun hg=> ?_⟩;have:=chkG_first h y hy;exact this hg
      |succ i=>simp at hx hy;exact b i x y hx hy
     ·intro x hx;simp at hx;subst hx;exact h4
     ·rw[uq];omega
  ·rw[if_pos h1]at h;exact absurd h h1
where
 chkG_first {len:Int} {l:List El} {en bx b_y sum:Int} (h:Qn len false en bx b_y sum l=0) (y:El) (hy:l[0]? =some y) (hg:y.g=false):y.ax=bx∧y.ay=b_y:=by
  cases l with
  |nil=>simp at hy
  |cons z l=>
   simp at hy;subst hy;rw[uo]at h;by_cases h1:z.err=0
   ·rw[if_neg (by simp[h1])]at h;by_cases h2:z.n<en∨(false=true∧z.g=true)
    ·rw[if_pos h2]at h;cases h
    ·rw[if_neg h2]at h;by_cases h3:false=false∧z.g=false∧¬(z.ax=bx∧z.ay=b_y)
     ·rw[if_pos h3]at h;cases h
     ·rcases Classical.em (z.ax=bx∧z.ay=b_y)with h6|h6
      ·exact h6
      ·exact absurd ⟨rfl,hg,h6⟩ h3
   ·rw[if_pos h1]at h;exact absurd h h1
structure Nk(l:List El)(len:Int):Prop where
 short:l.length≤500
 err:∀(i:Nat) (x:El),l[i]? =some x→x.err=0
 low:∀(i:Nat) (x:El),l[i]? =some x→0≤x.n
 rise:∀(i:Nat) (x y:El),l[i]? =some x→l[i+1]? =some y→x.n≤y.n
 meet:∀(i:Nat) (x y:El),l[i]? =some x→l[i+1]? =some y→y.g=false→y.ax=x.bx∧y.ay=x.b_y
 first:∀x:El,l[0]? =some x→x.g=false
 sum:len=kX l
theorem VW{l:List El}{len:Int}(h:uV l len=0):Nk l len:=by
 unfold uV at h;by_cases h5:500<l.length
 ·rw[if_pos h5]at h;cases h
 ·rw[if_neg h5]at h;obtain⟨a,b,c,d⟩:=mY h;exact⟨DL,fun i x hx=>JZ h x (List.mem_of_getElem? hx),a,fun i x y hx hy=>(b i x y hx hy).1,fun i x y hx hy=>(b i x y hx hy).2,fun x hx=>c x hx rfl,DL⟩
theorem Kw{ax ay bx b_y cx cy r f s L:Int}(h:bK false ax ay bx b_y cx cy r f s L=0):qw ax ay=true∧qw bx b_y=true∧¬(ax=bx∧ay=b_y)∧L=qY ax ay bx b_y∧1≤L:=by
 unfold bK at h;by_cases h1:(!(qw ax ay&&qw bx b_y))=true
 ·rw[if_pos h1]at h;cases h
 ·rw[if_neg h1,if_neg DQ]at h;by_cases h2:¬(cx=0∧cy=0∧r=0∧f=0∧s=0)
  ·rw[if_pos h2]at h;cases h
  ·rw[if_neg h2]at h;by_cases h3:L<1∨¬L=qY ax ay bx b_y
   ·rw[if_pos h3]at h;cases h
   ·have hL:L=qY ax ay bx b_y:=DL;have hv:qw ax ay=true∧qw bx b_y=true:=by simpa using h1
    refine⟨hv.1,hv.2,?_,hL,DL⟩;rintro⟨rfl,rfl⟩
    have:qY ax ay ax ay=0:=by
     unfold qY;rw[hv.1];have e:zV ax ay ax ay=0:=by unfold zV;simp
     rw[e];simp[vu]
    omega
def xb:List El→Int→Option (El×Int)
 | [],_=>none
 |x::l,s=>if x.L<s then xb l (s-x.L)else some (x,s)
def MB(x:El)(s:Int):Int×Int×Int×Int:=
 if x.c then jp x.cx x.cy x.r x.f x.s s else(x.ax+(qR 2 (x.bx-x.ax) s x.L).1,x.ay+(qR 2 (x.b_y-x.ay) s x.L).1,(qN x.ax x.ay x.bx x.b_y).1,(qN x.ax x.ay x.bx x.b_y).2)
def Wz(l:List El)(len s:Int):Int×Int×Int×Int:=
 if¬uV l len=0 then(0,0,0,uV l len)else if s<0∨len<s then(0,0,0,2)else
 match xb l s with
 |none=>(0,0,0,6)
 |some T=>MB T.1 T.2
theorem pT{l:List El}:∀{s:Int},l≠[]→s≤kX l→∃T,xb l s=some T:=by
 induction l with
 |nil=>intro s h;exact absurd rfl h
 |cons x l ih=>
  intro s _ h;rw[xb];rw[uq]at h;by_cases hx:x.L<s
  ·rw[if_pos hx]
   cases l with
   |nil=>rw[VV]at h;omega
   |cons y l=>exact ih DS DL
  ·rw[if_neg hx];exact⟨_,rfl⟩
theorem fA(s:Int):xb [] s=none:=rfl
theorem eX{l:List El}{i:Nat}{x:El}(hx:l[i]? =some x)(s:Int):xb (l.drop i) s=if x.L<s then xb (l.drop (i+1)) (s-x.L)else some (x,s):=by
 have h:=(List.getElem?_eq_some_iff.1 hx);obtain⟨h1,h2⟩:=h;rw[List.drop_eq_getElem_cons h1,h2,xb]
theorem pU{l:List El}{i:Nat}(h:l.length≤i)(s:Int):xb (l.drop i) s=none:=by
 rw[List.drop_eq_nil_of_le h,fA]
theorem mZ:∀{l:List El},(∀x∈l,1≤x.L∧x.L≤60000000)→0≤kX l∧kX l≤l.length*60000000
 | [],_=>by rw[VV];simp
 |x::l,h=>by
  have a:=h x List.mem_cons_self;have b:=mZ (l:=l) (fun y hy=>h y (List.mem_cons_of_mem _ hy));rw[uq];simp;omega
theorem WB{l:List El}{len:Int}(h:uV l len=0):0≤len∧len≤30000000000:=by
 have ok:=VW h
 have:=mZ (l:=l) (fun x hx=>by
  obtain⟨i,hi⟩:=List.getElem?_of_mem hx
  exact pR h hi)
 have h5:=ok.short;rw[ok.sum];omega
theorem Pp{d s L:Int}(hd: -4000000≤d∧d≤4000000)(h0:0≤s)(h1:s≤L)(hL:1≤L)(hL2:L≤60000000):
 (qR 2 d s L).2=0∧(-L≤2*((qR 2 d s L).1*L-d*s)∧2*((qR 2 d s L).1*L-d*s)≤L)∧ -4000001≤(qR 2 d s L).1∧(qR 2 d s L).1≤4000001:=by
 have hn:=Ue (d*s) L DL;rw[show(L.natAbs:Int)=L from by omega]at hn;have a1:d*s≤4000000*s:=Int.mul_le_mul_of_nonneg_right hd.2 h0;have a2: -4000000*s≤d*s:=Int.mul_le_mul_of_nonneg_right hd.1 h0
 have hb: -4000001≤vW 2 (d*s) L∧vW 2 (d*s) L≤4000001:=by
  generalize vW 2 (d*s) L=v at*;constructor
  ·rcases Int.lt_or_le v (-4000001)with h|h
   ·have:v*L≤ -4000002*L:=Int.mul_le_mul_of_nonneg_right DL DL;omega
   ·exact h
  ·rcases Int.lt_or_le 4000001 v with h|h
   ·have:4000002*L≤v*L:=Int.mul_le_mul_of_nonneg_right DL DL;omega
   ·exact h
 unfold qR;rw[if_neg DL];generalize vW 2 (d*s) L=v at*;have hi:Zp v=true:=by unfold Zp;exact decide_eq_true DL
 rw[if_pos hi];exact⟨rfl,hn,hb⟩
def yx(c:UInt8):Bool:=(decide (65≤(c.toNat:Int))&&decide ((c.toNat:Int)≤90))||(decide (48≤(c.toNat:Int))&&decide ((c.toNat:Int)≤57))
def yA(l:List UInt8)(most:Int):Bool:=
 match l with
 | []=>false
 |c::r=>decide (((c::r).length:Int)≤most)&&(decide (65≤(c.toNat:Int))&&decide ((c.toNat:Int)≤90))&&(c::r).all yx
def kQ(l:List UInt8):Bool:=decide (l.length=2)&&l.all yx
def VR(b:UInt8):List UInt8→Option (List UInt8×List UInt8)
 | []=>none
 |c::l=>if c=b then some ([],l)else(VR b l).map fun p=>(c::p.1,p.2)
def YA(l:List UInt8):Bool:=
 match VR 47 l with
 |none=>false
 |some (a,b)=>yA a 6&&(yA b 6||kQ b)
structure En where
 (gap:Bool) (ty:Int) (fx ct:ByteArray) (tn:Int) (ov:Bool) (crs dst rad tht lo hi spd rnp ex ey mx my sec:Int) (via:ByteArray)
def En.leg(x:En):List Value:=[.int .u8 x.ty,.string x.fx,.string x.ct,.int .u8 x.tn,.bool x.ov,Iv x.crs,Iv x.dst,Iv x.rad,Iv x.tht,Iv x.lo,Iv x.hi,Iv x.spd,Iv x.rnp]
def En.cells(x:En):List Value:=[.bool x.gap,.int .u8 x.ty,.string x.fx,.string x.ct,.int .u8 x.tn,.bool x.ov,Iv x.crs,Iv x.dst,Iv x.rad,Iv x.tht,Iv x.lo,Iv x.hi,Iv x.spd,Iv x.rnp,Iv x.ex,Iv x.ey,Iv x.mx,Iv x.my,.int .u8 x.sec,.string x.via]
def Uu:List Int:=[0,1,9,25,9,71,71,16,50,16,146,17,49,17,53,53,53,53]
def qZ(t:Int)(m:Nat):Bool:=(Uu.getD t.toNat 0).toNat.testBit m
def yM(s:ByteArray)(used:Bool):Int:=if used then(if YA s.data.toList then 0 else 5)else if s.data.toList=[]then 0 else 1
def jS(n:Int)(used:Bool)(lo hi:Int):Int:=if used then(if n<lo∨n>hi then 2 else 0)else if n=0 then 0 else 1
def tM(t:Int):Bool:=decide (t=7∨t=11∨t=14)
def JU(x:En):Int:=if x.lo< -200000∨x.lo>x.hi∨x.hi>6000000 then 2 else if tM x.ty=true∧x.lo= -200000 then 2 else if x.spd<0∨x.spd>1000∨x.rnp<0∨x.rnp>120000 then 2 else 0
def zU(x:En):Int:=
 if x.ty<1∨x.ty>17 then 17 else
 if yM x.fx (qZ x.ty 0)≠0 then yM x.fx (qZ x.ty 0)else
 if yM x.ct (qZ x.ty 1)≠0 then yM x.ct (qZ x.ty 1)else
 if(if qZ x.ty 2 then decide (x.tn=1)||decide (x.tn=2)else decide (x.tn=0))=false then 1 else
 if(x.ov&& !qZ x.ty 3)=true then 1 else
 if jS x.crs (qZ x.ty 4) 0 129599999≠0 then jS x.crs (qZ x.ty 4) 0 129599999 else
 if jS x.dst (qZ x.ty 5) 1 2000000≠0 then jS x.dst (qZ x.ty 5) 1 2000000 else
 if jS x.rad (qZ x.ty 6) 1 2000000≠0 then jS x.rad (qZ x.ty 6) 1 2000000 else
 if jS x.tht (qZ x.ty 7) 0 129599999≠0 then jS x.tht (qZ x.ty 7) 0 129599999 else JU x
theorem jc{a:Int}(h:(a !=0)=true):a≠0:=by simpa using h
theorem zI{a:Int}(h:(a !=0)=false):¬a≠0:=by simpa using h
theorem mT{x:En}(r1:1≤x.ty)(r2:x.ty≤17)(h:(yM x.fx (qZ x.ty 0) !=0)=true):zU x=yM x.fx (qZ x.ty 0):=by
 unfold zU;rw[if_neg DL,if_pos (jc h)]
theorem mU{x:En}(r1:1≤x.ty)(r2:x.ty≤17)(a0:(yM x.fx (qZ x.ty 0) !=0)=false)(h:(yM x.ct (qZ x.ty 1) !=0)=true):zU x=yM x.ct (qZ x.ty 1):=by
 unfold zU;rw[if_neg DL,if_neg (zI a0),if_pos (jc h)]
theorem ek{x:En}(r1:1≤x.ty)(r2:x.ty≤17)(a0:(yM x.fx (qZ x.ty 0) !=0)=false)(a1:(yM x.ct (qZ x.ty 1) !=0)=false)(h:(if qZ x.ty 2 then decide (x.tn=1)||decide (x.tn=2)else decide (x.tn=0))=false):zU x=1:=by
 unfold zU;rw[if_neg DL,if_neg (zI a0),if_neg (zI a1),if_pos h]
theorem eu{x:En}(r1:1≤x.ty)(r2:x.ty≤17)(a0:(yM x.fx (qZ x.ty 0) !=0)=false)(a1:(yM x.ct (qZ x.ty 1) !=0)=false)(a2:(if qZ x.ty 2 then decide (x.tn=1)||decide (x.tn=2)else decide (x.tn=0))=true)(h:(x.ov&& !qZ x.ty 3)=true):zU x=1:=by
 unfold zU;rw[if_neg DL,if_neg (zI a0),if_neg (zI a1),if_neg (by rw[a2];simp),if_pos h]
theorem eB{x:En}(r1:1≤x.ty)(r2:x.ty≤17)(a0:(yM x.fx (qZ x.ty 0) !=0)=false)(a1:(yM x.ct (qZ x.ty 1) !=0)=false)(a2:(if qZ x.ty 2 then decide (x.tn=1)||decide (x.tn=2)else decide (x.tn=0))=true)(a3:(x.ov&& !qZ x.ty 3)=false)(h:(jS x.crs (qZ x.ty 4) 0 129599999 !=0)=true):zU x=jS x.crs (qZ x.ty 4) 0 129599999:=by
 unfold zU;rw[if_neg DL,if_neg (zI a0),if_neg (zI a1),if_neg (by rw[a2];simp),if_neg (by rw[a3];simp),if_pos (jc h)]
theorem eD{x:En}(r1:1≤x.ty)(r2:x.ty≤17)(a0:(yM x.fx (qZ x.ty 0) !=0)=false)(a1:(yM x.ct (qZ x.ty 1) !=0)=false)(a2:(if qZ x.ty 2 then decide (x.tn=1)||decide (x.tn=2)else decide (x.tn=0))=true)(a3:(x.ov&& !qZ x.ty 3)=false)(a4:(jS x.crs (qZ x.ty 4) 0 129599999 !=0)=false)(h:(jS x.dst (qZ x.ty 5) 1 2000000 !=0)=true):zU x=jS x.dst (qZ x.ty 5) 1 2000000:=by
 unfold zU;rw[if_neg DL,if_neg (zI a0),if_neg (zI a1),if_neg (by rw[a2];simp),if_neg (by rw[a3];simp),if_neg (zI a4),if_pos (jc h)]
theorem eE{x:En}(r1:1≤x.ty)(r2:x.ty≤17)(a0:(yM x.fx (qZ x.ty 0) !=0)=false)(a1:(yM x.ct (qZ x.ty 1) !=0)=false)(a2:(if qZ x.ty 2 then decide (x.tn=1)||decide (x.tn=2)else decide (x.tn=0))=true)(a3:(x.ov&& !qZ x.ty 3)=false)(a4:(jS x.crs (qZ x.ty 4) 0 129599999 !=0)=false)(a5:(jS x.dst (qZ x.ty 5) 1 2000000 !=0)=false)(h:(jS x.rad (qZ x.ty 6) 1 2000000 !=0)=true):zU x=jS x.rad (qZ x.ty 6) 1 2000000:=by
 unfold zU;rw[if_neg DL,if_neg (zI a0),if_neg (zI a1),if_neg (by rw[a2];simp),if_neg (by rw[a3];simp),if_neg (zI a4),if_neg (zI a5),if_pos (jc h)]
theorem eF{x:En}(r1:1≤x.ty)(r2:x.ty≤17)(a0:(yM x.fx (qZ x.ty 0) !=0)=false)(a1:(yM x.ct (qZ x.ty 1) !=0)=false)(a2:(if qZ x.ty 2 then decide (x.tn=1)||decide (x.tn=2)else decide (x.tn=0))=true)(a3:(x.ov&& !qZ x.ty 3)=false)(a4:(jS x.crs (qZ x.ty 4) 0 129599999 !=0)=false)(a5:(jS x.dst (qZ x.ty 5) 1 2000000 !=0)=false)(a6:(jS x.rad (qZ x.ty 6) 1 2000000 !=0)=false)(h:(jS x.tht (qZ x.ty 7) 0 129599999 !=0)=true):zU x=jS x.tht (qZ x.ty 7) 0 129599999:=by
 unfold zU;rw[if_neg DL,if_neg (zI a0),if_neg (zI a1),if_neg (by rw[a2];simp),if_neg (by rw[a3];simp),if_neg (zI a4),if_neg (zI a5),if_neg (zI a6),if_pos (jc h)]
theorem Yn{x:En}(r1:1≤x.ty)(r2:x.ty≤17)(a0:(yM x.fx (qZ x.ty 0) !=0)=false)(a1:(yM x.ct (qZ x.ty 1) !=0)=false)(a2:(if qZ x.ty 2 then decide (x.tn=1)||decide (x.tn=2)else decide (x.tn=0))=true)(a3:(x.ov&& !qZ x.ty 3)=false)(a4:(jS x.crs (qZ x.ty 4) 0 129599999 !=0)=false)(a5:(jS x.dst (qZ x.ty 5) 1 2000000 !=0)=false)(a6:(jS x.rad (qZ x.ty 6) 1 2000000 !=0)=false)(a7:(jS x.tht (qZ x.ty 7) 0 129599999 !=0)=false):zU x=JU x:=by
 unfold zU;rw[if_neg DL,if_neg (zI a0),if_neg (zI a1),if_neg (by rw[a2];simp),if_neg (by rw[a3];simp),if_neg (zI a4),if_neg (zI a5),if_neg (zI a6),if_neg (zI a7)]
structure Tk where
 (k ax ay bx b_y cx cy r f s ci co len n:Int) (g:Bool)
def Tk.cells(t:Tk):List Value:=[.int .u8 t.k,Iv t.ax,Iv t.ay,Iv t.bx,Iv t.b_y,Iv t.cx,Iv t.cy,Iv t.r,Iv t.f,Iv t.s,Iv t.ci,Iv t.co,Iv t.len,Iv t.n,.bool t.g]
abbrev DJ(k ax ay bx b_y cx cy r f s ci co len n:Int)(g:Bool):List Value:=[.int .u8 k,Iv ax,Iv ay,Iv bx,Iv b_y,Iv cx,Iv cy,Iv r,Iv f,Iv s,Iv ci,Iv co,Iv len,Iv n,.bool g]
abbrev Tk.cX(x:Tk):List Value:=DJ x.k x.ax x.ay x.bx x.b_y x.cx x.cy x.r x.f x.s x.ci x.co x.len x.n x.g
def Tk.zero:Tk:=⟨0,0,0,0,0,0,0,0,0,0,0,0,0,0,false⟩
def pK(k ax ay bx b_y c d:Int):Tk:=⟨k,ax,ay,bx,b_y,0,0,0,0,0,c,c,d,0,false⟩
def zf(ax ay bx b_y c:Int):Tk:=if ax=bx∧ay=b_y then pK 1 ax ay bx b_y c 0 else pK 1 ax ay bx b_y (qN ax ay bx b_y).1 (qY ax ay bx b_y)
def fp(ax ay bx b_y:Int):Int:=if ax=bx∧ay=b_y then 0 else qY ax ay bx b_y
theorem jE(ax ay bx b_y c k:Int):{zf ax ay bx b_y c with ci:=k,co:=k}=pK 1 ax ay bx b_y k (fp ax ay bx b_y):=by
 unfold zf fp;split<;>rfl
def kf(ax ay c l:Int):Tk×Int:=
 if(zi ax ay c l).2.2=0 then(pK 1 ax ay (zi ax ay c l).1 (zi ax ay c l).2.1 c l,0)else(Tk.zero,(zi ax ay c l).2.2)
theorem ze{cs:List Value}{e:Int}{t:Tk}{p:Tk×Int}(hp:p=(t,e))(hc:cs=t.cells):Ending.returned (.tuple #[.agg cs.toArray,Iv e])= .returned (.tuple #[.agg p.1.cells.toArray,Iv p.2]):=by subst hc hp;rfl
def jY(spd bank alt gr:Int):Int:=if spd<1∨spd>1000∨bank<1∨bank>3000∨alt< -200000∨alt>6000000∨gr<1∨gr>100000 then 2 else 0
def Jb(ax ay bx b_y px py:Int):Bool:=decide ((xz ax ay bx b_y px py).2.1<0)
def BL(ax ay c bx b_y:Int):Tk:=pK 1 ax ay bx b_y c (qY ax ay bx b_y)
def vp(fx fy c:Int)(x:En):Tk×Int:=
 let q:=zi x.ex x.ey (x.crs+64800000) 60000
 if q.2.2≠0 then(Tk.zero,q.2.2)else
 if Zq q.1 q.2.1 x.ex x.ey fx fy≥0 then(Tk.zero,10)else
 let o:=xz q.1 q.2.1 x.ex x.ey fx fy
 if o.2.2≠0 then(Tk.zero,o.2.2)else
 if o.1≥ -8∧o.1≤8 then(zf fx fy x.ex x.ey c,0)else
 let p:=GQ q.1 q.2.1 x.ex x.ey fx fy
 if p.2.2≠0 then(Tk.zero,p.2.2)else
 (pK 1 p.1 p.2.1 x.ex x.ey x.crs (fp p.1 p.2.1 x.ex x.ey),0)
def kF(alt lo gr:Int):Int:=if alt<lo then vW 1 ((lo-alt)*6000) gr else 0
def yS(fx fy alt:Int)(x:En)(gr:Int):Tk×Int:=if kF alt x.lo gr>8000000 then(Tk.zero,2)else kf fx fy x.crs (kF alt x.lo gr)
def yt(fx fy:Int)(x:En):Tk×Int:=
 let p:=zi fx fy x.crs 60000
 if p.2.2≠0 then(Tk.zero,p.2.2)else
 let o:=xz fx fy p.1 p.2.1 x.mx x.my
 if o.2.2≠0 then(Tk.zero,o.2.2)else
 if o.1>x.dst∨o.1< -x.dst then(Tk.zero,10)else
 if¬(o.2.1-vu (x.dst*x.dst-o.1*o.1).toNat<0)then kf fx fy x.crs (o.2.1-vu (x.dst*x.dst-o.1*o.1).toNat)else
 if o.2.1+vu (x.dst*x.dst-o.1*o.1).toNat<0 then(Tk.zero,10)else kf fx fy x.crs (o.2.1+vu (x.dst*x.dst-o.1*o.1).toNat)
def vR(fx fy:Int)(x:En):Tk×Int:=
 let p:=zi fx fy x.crs 60000
 if p.2.2≠0 then(Tk.zero,p.2.2)else
 let r:=zi x.mx x.my x.tht 60000
 if r.2.2≠0 then(Tk.zero,r.2.2)else
 let b:=Ud fx fy p.1 p.2.1 x.mx x.my r.1 r.2.1
 if b.2.2≠0 then(Tk.zero,b.2.2)else
 if(Jb fx fy p.1 p.2.1 b.1 b.2.1||Jb x.mx x.my r.1 r.2.1 b.1 b.2.1)=true then(Tk.zero,10)else
 (BL fx fy x.crs b.1 b.2.1,0)
def yD(fx fy:Int)(x y:En):Tk×Int:=
 if y.gap=true∨y.ty≠3 then(Tk.zero,10)else
 let p:=zi fx fy x.crs 60000
 if p.2.2≠0 then(Tk.zero,p.2.2)else
 let q:=zi y.ex y.ey (zy y.crs 64800000) 60000
 if q.2.2≠0 then(Tk.zero,q.2.2)else
 let b:=Ud fx fy p.1 p.2.1 q.1 q.2.1 y.ex y.ey
 if b.2.2≠0 then(Tk.zero,b.2.2)else
 if(Jb fx fy p.1 p.2.1 b.1 b.2.1||decide (Zq q.1 q.2.1 y.ex y.ey b.1 b.2.1≥0))=true then(Tk.zero,10)else
 (BL fx fy x.crs b.1 b.2.1,0)
theorem Ni(n:Nat):vu n≤n:=by
 have h:=(bh n).1;rcases Nat.eq_zero_or_pos (vu n)with e|e
 ·omega
 ·exact Nat.le_trans (Nat.le_mul_of_pos_right _ e) h
theorem mV(n s:Int): -(n.natAbs:Int)≤gL n s∧gL n s≤n.natAbs:=by
 have hsq:vu (n*n/s).toNat≤n.natAbs:=by
  apply Classical.byContradiction;intro hh;have h1:=(bh (n*n/s).toNat).1;have h2:(n.natAbs+1)*(n.natAbs+1)≤vu (n*n/s).toNat*vu (n*n/s).toNat:=Nat.mul_le_mul DL DL
  have h3:(n*n/s).toNat≤n.natAbs*n.natAbs:=by
   have e:n*n=((n.natAbs*n.natAbs:Nat):Int):=by rw[Int.natCast_mul];exact(Int.natAbs_mul_self).symm
   have h4:n*n/s≤n*n:=by
    rw[e];exact Int.ediv_le_self _ (Int.natCast_nonneg _)
   rw[e]at h4⊢;omega
  have h5:(n.natAbs+1)*(n.natAbs+1)=n.natAbs*n.natAbs+2*n.natAbs+1:=by grind
  omega
 unfold gL;split<;>omega
theorem Yo{a b k:Int}(ha: -k≤a∧a≤k)(hb: -k≤b∧b≤k)(hk:0≤k): -(k*k)≤a*b∧a*b≤k*k:=by
 have h:(a*b).natAbs≤k.natAbs*k.natAbs:=by
  rw[Int.natAbs_mul];exact Nat.mul_le_mul DL DL
 have e:((k.natAbs*k.natAbs:Nat):Int)=k*k:=by rw[Int.natCast_mul];exact Int.natAbs_mul_self
 have h2:((a*b).natAbs:Int)≤k*k:=by rw[←e];omega
 omega
theorem Nj(ax ay bx b_y px py:Int):(-100000000000000≤(xz ax ay bx b_y px py).1∧(xz ax ay bx b_y px py).1≤100000000000000)∧(-100000000000000≤(xz ax ay bx b_y px py).2.1∧(xz ax ay bx b_y px py).2.1≤100000000000000):=by
 unfold xz;split
 ·simp
 ·rename_i hv;split
  ·simp
  ·have hv2:(qw ax ay=true∧qw bx b_y=true)∧qw px py=true:=by simpa using hv
   have h1:=(gm _ _).1 hv2.1.1;have h2:=(gm _ _).1 hv2.1.2;have h3:=(gm _ _).1 hv2.2;have p1:=Yo (a:=bx-ax) (b:=py-ay) (k:=4000000) DL DL DL;have p2:=Yo (a:=b_y-ay) (b:=px-ax) (k:=4000000) DL DL DL;have p3:=Yo (a:=bx-ax) (b:=px-ax) (k:=4000000) DL DL DL;have p4:=Yo (a:=b_y-ay) (b:=py-ay) (k:=4000000) DL DL DL;have l1:=mV (-((bx-ax)*(py-ay)-(b_y-ay)*(px-ax))) (zV ax ay bx b_y);have l2:=mV ((bx-ax)*(px-ax)+(b_y-ay)*(py-ay)) (zV ax ay bx b_y);dsimp only;generalize gL (-((bx-ax)*(py-ay)-(b_y-ay)*(px-ax))) (zV ax ay bx b_y)=A at*;generalize gL ((bx-ax)*(px-ax)+(b_y-ay)*(py-ay)) (zV ax ay bx b_y)=B at*;generalize(bx-ax)*(py-ay)=q1 at*;generalize(b_y-ay)*(px-ax)=q2 at*;generalize(bx-ax)*(px-ax)=q3 at*;generalize(b_y-ay)*(py-ay)=q4 at*;omega
theorem Po{n g:Int}(hn:0≤n)(hg:1≤g):0≤vW 1 n g∧vW 1 n g≤n:=by
 have h:=JG n g DL;generalize vW 1 n g=r at*;constructor
 ·apply Classical.byContradiction;intro hr;have:r*g≤(-1)*g:=Int.mul_le_mul_of_nonneg_right DL DL;omega
 ·apply Classical.byContradiction;intro hr;have h1:n*g≤(r-1)*g:=Int.mul_le_mul_of_nonneg_right DL DL;have h2:n*1≤n*g:=Int.mul_le_mul_of_nonneg_left hg hn;omega
theorem Uv{a b c:Int}(hn:0≤a*b)(hn2:a*b≤1000000000000)(hc:1≤c):qR 1 a b c=(vW 1 (a*b) c,0):=by
 have h:=Po hn hc;unfold qR;rw[if_neg DL,if_pos (by unfold Zp;rw[decide_eq_true_iff];omega)]
theorem Wx{alt lo gr:Int}(h:alt<lo)(h1: -200000≤alt)(h2:lo≤6000000)(hg:1≤gr):qR 1 ((lo-alt)*6000) 1 gr=(kF alt lo gr,0):=by
 rw[Uv DL DL hg];unfold kF;rw[if_pos h,Int.mul_one]
theorem Wy{alt lo gr:Int}(h:alt<lo)(h1: -200000≤alt)(h2:lo≤6000000)(hg:1≤gr):qR 1 (lo-alt) 6000 gr=(kF alt lo gr,0):=by
 rw[Uv DL DL hg];unfold kF;rw[if_pos h]
theorem JV{alt lo gr:Int}(h1: -200000≤alt)(h2:lo≤6000000)(hg:1≤gr):0≤kF alt lo gr∧kF alt lo gr≤100000000000:=by
 unfold kF;split
 ·have:=Po (n:=(lo-alt)*6000) (g:=gr) DL hg;omega
 ·omega
theorem Yp(ax ay cx cy bx b_y:Int)(right:Bool):∃v0 v1 v2 v3 v4 e0:Int,yg ax ay cx cy bx b_y right=([v0,v1,v2,v3,v4],e0)∧0≤v2∧v2≤6000000:=by
 unfold yg;split
 ·exact⟨0,0,0,0,0,1,rfl,by omega,DL⟩
 ·split
  ·exact⟨0,0,0,0,0,10,rfl,by omega,DL⟩
  ·have h:=uy cx cy ax ay;exact⟨_,_,_,_,_,_,rfl,by omega,DL⟩
def jZ(fx fy:Int)(x:En):Tk×Int:=
 if(yg fx fy x.mx x.my x.ex x.ey (decide (x.tn=2))).2≠0 then(Tk.zero,(yg fx fy x.mx x.my x.ex x.ey (decide (x.tn=2))).2)else
 match(yg fx fy x.mx x.my x.ex x.ey (decide (x.tn=2))).1 with
 | [cx,cy,r,f,s]=>
   if r-x.rad>60∨r-x.rad< -60 then(Tk.zero,10)else
   if(jp cx cy r f s 0).2.2.2≠0 then(Tk.zero,(jp cx cy r f s 0).2.2.2)else
   if(jp cx cy r f s (qX cx cy r f s)).2.2.2≠0 then(Tk.zero,(jp cx cy r f s (qX cx cy r f s)).2.2.2)else
   (⟨2,fx,fy,x.ex,x.ey,cx,cy,r,f,s,(jp cx cy r f s 0).2.2.1,(jp cx cy r f s (qX cx cy r f s)).2.2.1,qX cx cy r f s,0,false⟩,0)
 |_=>(Tk.zero,0)
def gG(ax ay c:Int):Tk×Int:=if(kf ax ay c 300000).2=0 then({(kf ax ay c 300000).1 with k:=4},0)else kf ax ay c 300000
def jq(c:Int)(x:En):Tk:=⟨3,x.ex,x.ey,x.ex,x.ey,0,0,0,0,0,c,if x.ty=17 then norm (x.crs+64800000)else x.crs,0,0,false⟩
def yT(fx fy c alt:Int)(x y:En)(gr:Int):Tk×Int:=
 if x.ty=1 then(zf x.ex x.ey x.ex x.ey c,0)else
 if x.ty=2∨x.ty=4 then(zf fx fy x.ex x.ey c,0)else
 if x.ty=3 then vp fx fy c x else
 if x.ty=5∨x.ty=6 then jZ fx fy x else
 if x.ty=7 then yS fx fy alt x gr else
 if x.ty=11 then yS x.ex x.ey alt x gr else
 if x.ty=12 then kf x.ex x.ey x.crs x.dst else
 if x.ty=13 then gG x.ex x.ey x.crs else
 if x.ty=8 then yt fx fy x else
 if x.ty=10 then vR fx fy x else
 if x.ty=9 then yD fx fy x y else(jq c x,0)
def qp(fx fy c alt:Int)(x y:En)(spd bank oalt gr:Int):Tk×Int:=
 if jY spd bank oalt gr≠0 then(Tk.zero,jY spd bank oalt gr)else
 if x.gap=true then(Tk.zero,17)else
 if zU x≠0 then(Tk.zero,zU x)else
 if(qw fx fy&&qw x.ex x.ey&&qw x.mx x.my)=false then(Tk.zero,1)else
 if c<0∨c≥129600000∨alt< -200000∨alt>6000000 then(Tk.zero,2)else yT fx fy c alt x y gr
theorem mW{n lo hi:Int}{u:Bool}(h:jS n u lo hi=0):(u=true→lo≤n∧n≤hi)∧(u=false→n=0):=by
 unfold jS at h;rcases u with _|_
 ·refine⟨(fun h=>by cases h),fun _=> ?_⟩;apply Classical.byContradiction;intro hn;rw[if_neg DS,if_neg hn]at h;cases h
 ·refine⟨fun _=> ?_,(fun h=>by cases h)⟩;apply Classical.byContradiction;intro hn;rw[if_pos rfl,if_pos DL]at h;cases h
theorem Jc{n lo hi:Int}{u:Bool}(h:jS n u lo hi=0)(hlo:lo≤1)(hlo2:0≤lo)(hhi:1≤hi):0≤n∧n≤hi:=by
 have h1:=mW h;rcases u with _|_
 ·have:=h1.2 rfl;omega
 ·have:=h1.1 rfl;omega
theorem jr{x:En}(h:zU x=0):(1≤x.ty∧x.ty≤17)∧(0≤x.crs∧x.crs≤129599999)∧(0≤x.dst∧x.dst≤2000000)∧(0≤x.rad∧x.rad≤2000000)∧(0≤x.tht∧x.tht≤129599999)∧
 (-200000≤x.lo∧x.lo≤x.hi∧x.hi≤6000000)∧(qZ x.ty 2=true→x.tn=1∨x.tn=2):=by
 have r:1≤x.ty∧x.ty≤17:=by
  apply Classical.byContradiction;intro hn;unfold zU at h;rw[if_pos DL]at h;cases h
 obtain⟨r1,r2⟩:=r
 have a1:(yM x.fx (qZ x.ty 0) !=0)=false:=by
  rcases hh:(yM x.fx (qZ x.ty 0) !=0)with _|_
  ·rfl
  ·have:=mT r1 r2 hh;exact absurd (this.symm.trans h) (jc hh)
 have a2:(yM x.ct (qZ x.ty 1) !=0)=false:=by
  rcases hh:(yM x.ct (qZ x.ty 1) !=0)with _|_
  ·rfl
  ·have:=mU r1 r2 a1 hh;exact absurd (this.symm.trans h) (jc hh)
 have a3:(if qZ x.ty 2 then decide (x.tn=1)||decide (x.tn=2)else decide (x.tn=0))=true:=by
  rcases hh:(if qZ x.ty 2 then decide (x.tn=1)||decide (x.tn=2)else decide (x.tn=0))with _|_
  ·have:=ek r1 r2 a1 a2 hh;omega
  ·rfl
 have a4:(x.ov&& !qZ x.ty 3)=false:=by
  rcases hh:(x.ov&& !qZ x.ty 3)with _|_
  ·rfl
  ·have:=eu r1 r2 a1 a2 a3 hh;omega
 have a5:(jS x.crs (qZ x.ty 4) 0 129599999 !=0)=false:=by
  rcases hh:(jS x.crs (qZ x.ty 4) 0 129599999 !=0)with _|_
  ·rfl
  ·have:=eB r1 r2 a1 a2 a3 a4 hh;exact absurd (this.symm.trans h) (jc hh)
 have a6:(jS x.dst (qZ x.ty 5) 1 2000000 !=0)=false:=by
  rcases hh:(jS x.dst (qZ x.ty 5) 1 2000000 !=0)with _|_
  ·rfl
  ·have:=eD r1 r2 a1 a2 a3 a4 a5 hh;exact absurd (this.symm.trans h) (jc hh)
 have a7:(jS x.rad (qZ x.ty 6) 1 2000000 !=0)=false:=by
  rcases hh:(jS x.rad (qZ x.ty 6) 1 2000000 !=0)with _|_
  ·rfl
  ·have:=eE r1 r2 a1 a2 a3 a4 a5 a6 hh;exact absurd (this.symm.trans h) (jc hh)
 have a8:(jS x.tht (qZ x.ty 7) 0 129599999 !=0)=false:=by
  rcases hh:(jS x.tht (qZ x.ty 7) 0 129599999 !=0)with _|_
  ·rfl
  ·have:=eF r1 r2 a1 a2 a3 a4 a5 a6 a7 hh;exact absurd (this.symm.trans h) (jc hh)
 have a9:=Yn r1 r2 a1 a2 a3 a4 a5 a6 a7 a8;rw[h]at a9;have z:∀{a:Int},(a !=0)=false→a=0:=fun h=>by simpa using h
 refine⟨⟨r1,r2⟩,Jc (z a5) DL DL DL,Jc (z a6) DL DL DL,Jc (z a7) DL DL DL,Jc (z a8) DL DL DL,?_,?_⟩
 ·unfold JU at a9;split at a9
  ·cases a9
  ·omega
 ·intro hu;rw[hu,if_pos rfl]at a3;simpa using a3
theorem js{s b a g:Int}(h:jY s b a g=0):(1≤s∧s≤1000)∧(1≤b∧b≤3000)∧(-200000≤a∧a≤6000000)∧(1≤g∧g≤100000):=by
 unfold jY at h;split at h
 ·cases h
 ·omega
end Go.Proofs.YtcgpbnlhnafhjaaGreatDoor
