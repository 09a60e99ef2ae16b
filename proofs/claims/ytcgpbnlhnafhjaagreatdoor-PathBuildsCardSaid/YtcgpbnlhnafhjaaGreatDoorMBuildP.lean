/-
  Chapter 26 and 27 as plain functions: patterns, turns that are flown by or over, how a path is built out of tracks. No program.
-/
import Derived.Test.YtcgpbnlhnafhjaaGreatDoorMPlanP1
namespace Go.Proofs.YtcgpbnlhnafhjaaGreatDoor
set_option linter.unusedVariables false
def tN(tn:Int):Int:=if tn=2 then 32400000 else-32400000
def bd(course inb tn:Int):Int:=if tn=2 then norm (norm (norm inb+64800000)-norm course)else norm (norm course-norm (norm inb+64800000))
structure Dj where
 (x1 y1 x2 y2 x3 y3 cx cy dx dy:Int)
def kz(inb tn:Int):Int:=inb+tN tn
def kB(fx fy inb tn leg rad:Int):Int:=
 if(qw fx fy&&(decide (tn=1)||decide (tn=2)))=false then 1 else
 if inb<0∨inb≥129600000∨leg<1∨leg>2000000∨rad<1∨rad>2000000 then 2 else
 if((zi fx fy (kz inb tn) rad).2.2=0∧(zi fx fy (kz inb tn) (2*rad)).2.2=0∧(zi fx fy (inb+64800000) leg).2.2=0∧
  qw ((zi fx fy (kz inb tn) (2*rad)).1+(zi fx fy (inb+64800000) leg).1-fx) ((zi fx fy (kz inb tn) (2*rad)).2.1+(zi fx fy (inb+64800000) leg).2.1-fy)=true∧
  qw ((zi fx fy (kz inb tn) rad).1+(zi fx fy (inb+64800000) leg).1-fx) ((zi fx fy (kz inb tn) rad).2.1+(zi fx fy (inb+64800000) leg).2.1-fy)=true)then 0 else 2
def tO(fx fy inb tn leg rad:Int):Dj:=
 ⟨(zi fx fy (kz inb tn) (2*rad)).1,(zi fx fy (kz inb tn) (2*rad)).2.1,
  (zi fx fy (kz inb tn) (2*rad)).1+(zi fx fy (inb+64800000) leg).1-fx,(zi fx fy (kz inb tn) (2*rad)).2.1+(zi fx fy (inb+64800000) leg).2.1-fy,
  (zi fx fy (inb+64800000) leg).1,(zi fx fy (inb+64800000) leg).2.1,
  (zi fx fy (kz inb tn) rad).1,(zi fx fy (kz inb tn) rad).2.1,
  (zi fx fy (kz inb tn) rad).1+(zi fx fy (inb+64800000) leg).1-fx,(zi fx fy (kz inb tn) rad).2.1+(zi fx fy (inb+64800000) leg).2.1-fy⟩
def vF(ax ay bx b_y:Int):El:=⟨false,ax,ay,bx,b_y,0,0,0,0,0,qY ax ay bx b_y,0,false⟩
def xd(ax ay bx b_y cx cy rad f s:Int):El:=⟨true,ax,ay,bx,b_y,cx,cy,rad,norm f,s,qX cx cy rad (norm f) s,0,false⟩
def tP(fx fy inb tn leg rad:Int):List El:=
 let s:=tO fx fy inb tn leg rad
 [xd fx fy s.x1 s.y1 s.cx s.cy rad (kz inb tn+64800000) (2*tN tn),vF s.x1 s.y1 s.x2 s.y2,xd s.x2 s.y2 s.x3 s.y3 s.dx s.dy rad (kz inb tn) (2*tN tn),vF s.x3 s.y3 fx fy]
def uJ(w fx fy inb tn leg rad:Int):List El:=
 let s:=tO fx fy inb tn leg rad
 if w<25200000 then[vF fx fy s.x2 s.y2,xd s.x2 s.y2 s.x3 s.y3 s.dx s.dy rad (kz inb tn) (2*tN tn),vF s.x3 s.y3 fx fy]else
 if w≥90000000 then[vF fx fy s.x3 s.y3,xd s.x3 s.y3 s.x2 s.y2 s.dx s.dy rad (kz inb tn+64800000) (-(2*tN tn)),vF s.x2 s.y2 fx fy]else[]
def wu(crs tn:Int):Int:=crs+(tN tn).tdiv 2
def ww(crs tn:Int):Int:=wu crs tn-tN tn
def vJ(fx fy crs tn dst rad:Int):Int×List El:=
 if(qw fx fy&&(decide (tn=1)||decide (tn=2)))=false then(1,[])else
 if crs<0∨crs≥129600000∨dst<1∨dst>2000000∨rad<1∨rad>666666 then(2,[])else
 let q:=zi fx fy crs dst
 let s:=zi q.1 q.2.1 (wu crs tn) (3*rad)
 let c:=zi s.1 s.2.1 (ww crs tn) rad
 let t:=zi s.1 s.2.1 (ww crs tn) (2*rad)
 let m:=zi q.1 q.2.1 crs (vW 2 (2*rad*1414213562) 1000000000)
 if q.2.2=0∧s.2.2=0∧c.2.2=0∧t.2.2=0∧m.2.2=0 then
  (0,[vF fx fy q.1 q.2.1,vF q.1 q.2.1 s.1 s.2.1,xd s.1 s.2.1 t.1 t.2.1 c.1 c.2.1 rad (ww crs tn+64800000) (-(2*tN tn)),vF t.1 t.2.1 m.1 m.2.1,vF m.1 m.2.1 fx fy])else(2,[])
structure Dw where
 els:List El
 px:Int
 py:Int
 gp:Bool
def xO(d:Dw)(x:El):Dw:=⟨d.els++[{x with g:=d.gp}],x.bx,x.b_y,false⟩
def jf(d:Dw)(qx qy n:Int):Dw:=if d.px=qx∧d.py=qy then d else xO d ⟨false,d.px,d.py,qx,qy,0,0,0,0,0,qY d.px d.py qx qy,n,false⟩
def vq(d:Dw)(cx cy r f s qx qy n:Int):Dw:=if 1≤qX cx cy r f s then xO d ⟨true,d.px,d.py,qx,qy,cx,cy,r,f,s,qX cx cy r f s,n,false⟩else jf d qx qy n
def kR(n:Int):Dw→List El→Dw
 |d,[]=>d
 |d,x::r=>kR n (if 1≤x.L then xO d {x with n:=n}else d) r
def Kn(x y:Tk):Int:=min (x.len.tdiv 2) (y.len.tdiv 2)
def bU(rad D lim:Int):Option Int:=
 if D=0∨54000000<(D.natAbs:Int)then none else
 if lim<jm rad D then(if rad*lim/jm rad D<600 then none else some (rad*lim/jm rad D))else some rad
theorem WP{rad lim lead:Int}(hr:1≤rad)(h0:0≤lim)(h:lim<lead):0≤rad*lim/lead∧rad*lim/lead<rad:=by
 have hl:0<lead:=DL;have h1:rad*lim<rad*lead:=Int.mul_lt_mul_of_pos_left h DL;exact⟨Int.ediv_nonneg (Int.mul_nonneg DL h0) DL,Int.ediv_lt_of_lt_mul hl (by rw[Int.mul_comm]at h1;rw[Int.mul_comm rad lead]at h1;rw[Int.mul_comm rad lim];rw[Int.mul_comm rad lead];exact h1)⟩
def ut(d:Dw)(xn yn:Int)(F:List Int):Option Dw:=
 match F with
 | [cx,cy,r,f,s,ax,ay,bx,b_y,_]=>
   if(jp cx cy r f (s.tdiv 2) (qX cx cy r f (s.tdiv 2))).2.2.2≠0 then none else
   some (vq (vq (jf d ax ay xn) cx cy r f (s.tdiv 2) (jp cx cy r f (s.tdiv 2) (qX cx cy r f (s.tdiv 2))).1 (jp cx cy r f (s.tdiv 2) (qX cx cy r f (s.tdiv 2))).2.1 xn) cx cy r (norm (f+s.tdiv 2)) (s-s.tdiv 2) bx b_y yn)
 |_=>none
def nn(rad:Int)(d:Dw)(x y:Tk):Option Dw:=
 match bU rad (zJ (qN x.ax x.ay x.bx x.b_y).1 (qN y.ax y.ay y.bx y.b_y).1) (Kn x y)with
 |none=>none
 |some r=>
  if(bg x.ax x.ay x.bx x.b_y y.bx y.b_y r).2≠0∨(bg x.ax x.ay x.bx x.b_y y.bx y.b_y r).1.getD 9 0=0∨Kn x y<(bg x.ax x.ay x.bx x.b_y y.bx y.b_y r).1.getD 9 0 then none else
  ut d x.n y.n (bg x.ax x.ay x.bx x.b_y y.bx y.b_y r).1
def xI(co D:Int):Int:=co+if 0<D then 32400000 else-32400000
def Yw(rad:Int)(d:Dw)(x y:Tk):Option (Dw×Tk):=
 let D:=zJ x.co y.ci
 let right:=decide (0<D)
 let c:=zi x.bx x.b_y (xI x.co D) rad
 let t:=Zj c.1 c.2.1 rad y.bx y.b_y right
 if D=0 then none else if c.2.2≠0 then none else if t.2.2≠0 then none else
 if(yg x.bx x.b_y c.1 c.2.1 t.1 t.2.1 right).2≠0 then none else
 match(yg x.bx x.b_y c.1 c.2.1 t.1 t.2.1 right).1 with
 | [cx,cy,r,f,s]=>
   some (vq (jf d x.bx x.b_y x.n) cx cy r f s t.1 t.2.1 y.n,
    if t.1=y.bx∧t.2.1=y.b_y then{y with ax:=t.1,ay:=t.2.1,co:=y.ci,len:=0}
    else{y with ax:=t.1,ay:=t.2.1,ci:=(qN t.1 t.2.1 y.bx y.b_y).1,co:=(qN t.1 t.2.1 y.bx y.b_y).1,len:=qY t.1 t.2.1 y.bx y.b_y})
 |_=>none
def QU(rad:Int)(d:Dw)(lx ly:En)(x y:Tk):Option (Dw×Tk):=
 if x.k≠1∨y.k≠1∨x.len<1∨y.len<1∨¬(y.ax=x.bx∧y.ay=x.b_y)then none else
 if lx.ov=true then(if ly.ty=4 then Yw rad d x y else none)else
 if lx.ty=7∨lx.ty=8∨lx.ty=9∨lx.ty=10∨lx.ty=11∨lx.ty=12 then none else
 (nn rad d x y).map (fun d'=>(d',y))
def gM(rad:Int)(d:Dw)(lx:En)(x:Tk):Int×Dw:=
 if lx.ty=17 then((vJ x.ax x.ay lx.crs lx.tn lx.dst rad).1,kR x.n d (vJ x.ax x.ay lx.crs lx.tn lx.dst rad).2)else
 if kB x.ax x.ay lx.crs lx.tn lx.dst rad≠0 then(kB x.ax x.ay lx.crs lx.tn lx.dst rad,d)else
 (0,kR x.n d (uJ (bd x.ci lx.crs lx.tn) x.ax x.ay lx.crs lx.tn lx.dst rad++tP x.ax x.ay lx.crs lx.tn lx.dst rad))
def vU(l:List En)(x:Tk):En:=(l[x.n.toNat]?).getD Qk
def kA(l:List En)(first done:Bool)(d:Dw)(x:Tk):Dw:=
 let d1:=if x.g=true∨(first=true∧(vU l x).ty=1)then{d with px:=x.ax,py:=x.ay,gp:=x.g&& !d.els.isEmpty}else d
 if done=true then d1 else jf d1 x.ax x.ay x.n
def jU(l:List En)(rad:Int):Bool→Bool→Dw→Tk→List Tk→Dw×Int×Int
 |first,done,d,x,[]=>
  if x.k=2 then(vq (kA l first done d x) x.cx x.cy x.r x.f x.s x.bx x.b_y x.n,0,0)else
  if x.k=3 then(if(gM rad (kA l first done d x) (vU l x) x).1≠0 then(d,x.n,(gM rad (kA l first done d x) (vU l x) x).1)else((gM rad (kA l first done d x) (vU l x) x).2,0,0))else
  (jf (kA l first done d x) x.bx x.b_y x.n,0,0)
 |first,done,d,x,y::r=>
  if x.k=2 then jU l rad false false (vq (kA l first done d x) x.cx x.cy x.r x.f x.s x.bx x.b_y x.n) y r else
  if x.k=3 then(if(gM rad (kA l first done d x) (vU l x) x).1≠0 then(d,x.n,(gM rad (kA l first done d x) (vU l x) x).1)else jU l rad false false (gM rad (kA l first done d x) (vU l x) x).2 y r)else
  match(if y.g=true then none else QU rad (kA l first done d x) (vU l x) (vU l y) x y)with
  |some (d',y')=>jU l rad false true d' y' r
  |none=>jU l rad false false (jf (kA l first done d x) x.bx x.b_y x.n) y r
def vh(l:List En)(fx fy:Int)(R:Int×Int)(T:List Tk×Int×Int):List El×Int×Int:=
 if T.2.2≠0 then([],T.2)else if R.2≠0 then([],0,R.2)else
 match T.1 with
 | []=>([],0,0)
 |x::r=>
  if(jU l R.1 true false ⟨[],fx,fy,false⟩ x r).2.2≠0 then([],(jU l R.1 true false ⟨[],fx,fy,false⟩ x r).2)else
  if((jU l R.1 true false ⟨[],fx,fy,false⟩ x r).1.els.length:Int)>500 then([],0,3)else((jU l R.1 true false ⟨[],fx,fy,false⟩ x r).1.els,0,0)
theorem fG(d:Dw)(qx qy n:Int):(jf d qx qy n).px=qx∧(jf d qx qy n).py=qy:=by
 unfold jf;split
 ·assumption
 ·exact⟨rfl,rfl⟩
def chain:Int→Int→List El→Prop
 |_,_,[]=>True
 |px,py,x::r=>x.ax=px∧x.ay=py∧(x.L<1→x.bx=x.ax∧x.b_y=x.ay)∧chain x.bx x.b_y r
theorem Nw{rad:Int}{d:Dw}{x y:Tk}{r:Dw×Tk}(hd:Yw rad d x y=some r):r.2.k=y.k:=by
 unfold Yw at hd;dsimp only at hd;split at hd
 ·cases hd
 split at hd
 ·cases hd
 split at hd
 ·cases hd
 split at hd
 ·cases hd
 split at hd
 ·injection hd with hd;subst hd;dsimp only;split<;>rfl
 ·cases hd
theorem WQ{rad:Int}{d:Dw}{lx ly:En}{x y:Tk}{r:Dw×Tk}(hd:QU rad d lx ly x y=some r):r.2.k=1:=by
 unfold QU at hd;split at hd
 ·cases hd
 rename_i hk;have hy:y.k=1:=DL;split at hd
 ·split at hd
  ·exact(Nw hd).trans hy
  ·cases hd
 split at hd
 ·cases hd
 ·obtain⟨d',h1,h2⟩:=Option.map_eq_some_iff.1 hd;subst h2;exact hy
theorem dE{ax ay bx b_y:Int}(h1:qw ax ay=true)(h2:qw bx b_y=true)(h:qY ax ay bx b_y<1):bx=ax∧b_y=ay:=by
 unfold qY at h;rw[h1,h2,if_pos (by rfl)]at h;have h3:vu (zV ax ay bx b_y).toNat=0:=DL;have h4:=(Bh _).1 h3
 have hx:0≤(bx-ax)*(bx-ax):=by
  rcases Int.le_total 0 (bx-ax)with q|q
  ·exact Int.mul_nonneg q q
  ·have:=Int.mul_nonneg (show(0:Int)≤ -(bx-ax) by omega) (show(0:Int)≤ -(bx-ax) by omega)
   rwa[Int.neg_mul_neg]at this
 have hy:0≤(b_y-ay)*(b_y-ay):=by
  rcases Int.le_total 0 (b_y-ay)with q|q
  ·exact Int.mul_nonneg q q
  ·have:=Int.mul_nonneg (show(0:Int)≤ -(b_y-ay) by omega) (show(0:Int)≤ -(b_y-ay) by omega)
   rwa[Int.neg_mul_neg]at this
 have h5:(bx-ax)*(bx-ax)+(b_y-ay)*(b_y-ay)≤0:=by
  unfold zV at h4;omega
 have e1:(bx-ax)*(bx-ax)=0:=DL;have e2:(b_y-ay)*(b_y-ay)=0:=DL;have f1:bx-ax=0:=by rcases Int.mul_eq_zero.1 e1 with q|q<;>exact q
 have f2:b_y-ay=0:=by rcases Int.mul_eq_zero.1 e2 with q|q<;>exact q
 omega
theorem fH{cx cy rad f s:Int}(hc:qw cx cy=true)(hr:1≤rad)(hr2:rad≤8000000)(hs:s=64800000∨s= -64800000):1≤qX cx cy rad (norm f) s:=by
 have hn:=zH f;unfold qX
 have hb:ur cx cy rad (norm f) s=true:=by
  unfold ur;rw[hc];simp only[Bool.true_and];exact decide_eq_true DL
 rw[if_pos hb];have hsn:((s.natAbs:Nat):Int)=64800000:=DL;rw[hsn];unfold vW;rw[if_neg DQ,if_neg DQ];rw[Int.fdiv_eq_ediv_of_nonneg _ DQ];omega
theorem tD{ax ay bx b_y:Int}(h1:qw ax ay=true)(h2:qw bx b_y=true):(vF ax ay bx b_y).L<1→(vF ax ay bx b_y).bx=(vF ax ay bx b_y).ax∧(vF ax ay bx b_y).b_y=(vF ax ay bx b_y).ay:=fun h=>dE h1 h2 h
theorem YS{ax ay bx b_y cx cy rad f s:Int}(hc:qw cx cy=true)(hr:1≤rad)(hr2:rad≤8000000)(hs:s=64800000∨s= -64800000):
 (xd ax ay bx b_y cx cy rad f s).L<1→(xd ax ay bx b_y cx cy rad f s).bx=(xd ax ay bx b_y cx cy rad f s).ax∧(xd ax ay bx b_y cx cy rad f s).b_y=(xd ax ay bx b_y cx cy rad f s).ay:=fun h=>by
 have:=fH (f:=f) hc hr hr2 hs;have h2:qX cx cy rad (norm f) s<1:=h;omega
theorem iR(tn:Int):2*tN tn=64800000∨2*tN tn= -64800000:=by unfold tN;split<;>omega
theorem xR{px py c d:Int}(h:(zi px py c d).2.2=0):qw (zi px py c d).1 (zi px py c d).2.1=true:=by
 unfold zi at h⊢;split at h
 ·cases h
 ·rename_i h1;rw[if_neg h1];split at h
  ·cases h
  ·rename_i h2;rw[if_neg h2];split at h
   ·rename_i h3;rw[if_pos h3];exact h3
   ·cases h
theorem fI{fx fy inb tn leg rad:Int}(h:kB fx fy inb tn leg rad=0):
 qw fx fy=true∧(1≤rad∧rad≤2000000)∧qw (tO fx fy inb tn leg rad).x1 (tO fx fy inb tn leg rad).y1=true∧qw (tO fx fy inb tn leg rad).x2 (tO fx fy inb tn leg rad).y2=true∧qw (tO fx fy inb tn leg rad).x3 (tO fx fy inb tn leg rad).y3=true∧
 qw (tO fx fy inb tn leg rad).cx (tO fx fy inb tn leg rad).cy=true∧qw (tO fx fy inb tn leg rad).dx (tO fx fy inb tn leg rad).dy=true:=by
 unfold kB at h;split at h
 ·cases h
 rename_i h1;split at h
 ·cases h
 rename_i h2;split at h
 ·rename_i h3;obtain⟨a1,a2,a3,a4,a5⟩:=h3
  have hv:qw fx fy=true:=by
   rcases hq:qw fx fy with _|_
   ·rw[hq]at h1;exact absurd rfl h1
   ·rfl
  exact⟨hv,by omega,xR a2,a4,xR a3,xR a1,a5⟩
 ·cases h
theorem dF{fx fy inb tn leg rad:Int}(h:kB fx fy inb tn leg rad=0):chain fx fy (tP fx fy inb tn leg rad):=by
 obtain⟨hf,hr,v1,v2,v3,vc,vd⟩:=fI h;exact⟨rfl,rfl,YS vc hr.1 DL (iR tn),rfl,rfl,tD v1 v2,rfl,rfl,YS vd hr.1 DL (iR tn),rfl,rfl,tD v3 hf,trivial⟩
theorem dG{fx fy inb tn leg rad:Int}(w:Int)(h:kB fx fy inb tn leg rad=0):chain fx fy (uJ w fx fy inb tn leg rad++tP fx fy inb tn leg rad):=by
 obtain⟨hf,hr,v1,v2,v3,vc,vd⟩:=fI h;have hp:=dF h;have hq:=iR tn;have hm: -(2*tN tn)=64800000∨ -(2*tN tn)= -64800000:=DL;unfold uJ;dsimp only;split
 ·exact⟨rfl,rfl,tD hf v2,rfl,rfl,YS vd hr.1 DL hq,rfl,rfl,tD v3 hf,hp⟩
 split
 ·exact⟨rfl,rfl,tD hf v3,rfl,rfl,YS vd hr.1 DL hm,rfl,rfl,tD v2 hf,hp⟩
 ·exact hp
theorem dH{fx fy crs tn dst rad:Int}(h:(vJ fx fy crs tn dst rad).1=0):chain fx fy (vJ fx fy crs tn dst rad).2:=by
 unfold vJ at h⊢;split at h
 ·cases h
 rename_i h1;rw[if_neg h1];split at h
 ·cases h
 rename_i h2;rw[if_neg h2];dsimp only at h⊢;split at h
 ·rename_i h3;rw[if_pos h3];obtain⟨a1,a2,a3,a4,a5⟩:=h3
  have hv:qw fx fy=true:=by
   rcases hq:qw fx fy with _|_
   ·rw[hq]at h1;exact absurd rfl h1
   ·rfl
  have hq:=iR tn;exact⟨rfl,rfl,tD hv (xR a1),rfl,rfl,tD (xR a1) (xR a2),rfl,rfl,YS (xR a3) DL DL DL,rfl,rfl,tD (xR a4) (xR a5),rfl,rfl,tD (xR a5) hv,trivial⟩
 ·rename_i h3;cases h
def Jw(t:Tk):Prop:=t.k=1→t.ci=t.co∧ -8000000≤t.len∧t.len≤8000000
def nu(p:Tk×Int):Prop:=p.2=0→Jw p.1
theorem zA{q:Prop} [Decidable q]{a b:Tk×Int}(ha:nu a)(hb:nu b):nu (if q then a else b):=by split<;>assumption
theorem dI(ax ay bx b_y c:Int){d:Int}(h: -8000000≤d∧d≤8000000):Jw (pK 1 ax ay bx b_y c d):=fun _=>⟨rfl,h⟩
theorem Zw(ax ay bx b_y:Int): -8000000≤qY ax ay bx b_y∧qY ax ay bx b_y≤8000000:=by
 have:=uy ax ay bx b_y;omega
theorem zP(e:Int):nu (Tk.zero,e):=fun _ h=>by cases h
theorem xT(ax ay bx b_y c:Int):Jw (zf ax ay bx b_y c):=by
 unfold zf;split
 ·exact dI _ _ _ _ _ DQ
 ·exact dI _ _ _ _ _ (Zw _ _ _ _)
theorem Zx(ax ay c l:Int):nu (kf ax ay c l):=by
 unfold kf;split
 ·rename_i h;intro _;refine dI _ _ _ _ _ ?_;unfold zi at h;split at h
  ·cases h
  split at h
  ·cases h
  ·omega
 ·exact zP _
theorem iS(ax ay bx b_y:Int): -8000000≤fp ax ay bx b_y∧fp ax ay bx b_y≤8000000:=by
 unfold fp;split
 ·decide
 ·exact Zw _ _ _ _
theorem iT(fx fy c:Int)(x:En):nu (vp fx fy c x):=by
 unfold vp;exact zA (zP _) (zA (zP _) (zA (zP _) (zA (fun _=>xT _ _ _ _ _) (zA (zP _) (fun _=>dI _ _ _ _ _ (iS _ _ _ _))))))
theorem iU(fx fy:Int)(x:En):nu (jZ fx fy x):=by
 unfold jZ;refine zA (zP _) ?_;split
 ·exact zA (zP _) (zA (zP _) (zA (zP _) (fun _ h=>by cases h)))
 ·exact zP _
theorem Kz(fx fy alt:Int)(x:En)(gr:Int):nu (yS fx fy alt x gr):=by
 unfold yS;exact zA (zP _) (Zx _ _ _ _)
theorem fJ(a b c:Int):nu (gG a b c):=by
 unfold gG;exact zA (fun _ h=>by cases h) (Zx _ _ _ _)
theorem Pt(fx fy:Int)(x:En):nu (yt fx fy x):=by
 unfold yt;exact zA (zP _) (zA (zP _) (zA (zP _) (zA (Zx _ _ _ _) (zA (zP _) (Zx _ _ _ _)))))
theorem Pu(fx fy:Int)(x:En):nu (vR fx fy x):=by
 unfold vR;exact zA (zP _) (zA (zP _) (zA (zP _) (zA (zP _) (fun _=>dI _ _ _ _ _ (Zw _ _ _ _)))))
theorem Pv(fx fy:Int)(x y:En):nu (yD fx fy x y):=by
 unfold yD;exact zA (zP _) (zA (zP _) (zA (zP _) (zA (zP _) (zA (zP _) (fun _=>dI _ _ _ _ _ (Zw _ _ _ _))))))
theorem iV(fx fy c alt:Int)(x y:En)(gr:Int):nu (yT fx fy c alt x y gr):=by
 unfold yT;exact zA (fun _=>xT _ _ _ _ _) (zA (fun _=>xT _ _ _ _ _) (zA (iT _ _ _ _) (zA (iU _ _ _) (zA (Kz _ _ _ _ _) (zA (Kz _ _ _ _ _) (zA (Zx _ _ _ _) (zA (fJ _ _ _) (zA (Pt _ _ _) (zA (Pu _ _ _) (zA (Pv _ _ _ _) (fun _ h=>by cases h)))))))))))
theorem dJ(pv:Option En)(fx fy c alt:Int)(x y:En)(spd bank oalt gr:Int):nu (zx pv fx fy c alt x y spd bank oalt gr):=by
 unfold zx;refine zA (fun _ _=>⟨rfl,by show(-8000000:Int)≤0;decide,by show(0:Int)≤8000000;decide⟩) ?_;unfold qp;exact zA (zP _) (zA (zP _) (zA (zP _) (zA (zP _) (zA (zP _) (iV _ _ _ _ _ _ _)))))
theorem xj{spd bank oalt gr:Int}:∀(l:List En) (pv:Option En) (i:Nat) (fx fy c alt:Int) (t:Tk),t∈(zS spd bank oalt gr pv i fx fy c alt l).1→Jw t
 | [],pv,i,fx,fy,c,alt,t,h=>by cases h
 |x::r,pv,i,fx,fy,c,alt,t,h=>by
  rcases hg:x.gap with _|_
  ·by_cases he:(zx pv fx fy c alt x (yz r) spd bank oalt gr).2=0
   ·obtain⟨T,hT⟩:∃T,zx pv fx fy c alt x (yz r) spd bank oalt gr=(T,0):=⟨_,Prod.ext rfl he⟩;rw[yZ hg hT]at h;unfold vZ at h;split at h
    ·cases h
    ·have hs:=dJ pv fx fy c alt x (yz r) spd bank oalt gr he;rw[hT]at hs;rcases List.mem_append.1 h with h|h
     ·rw[List.mem_singleton.1 h];exact hs
     ·exact xj r _ _ _ _ _ _ t h
   ·obtain⟨T,e,hT⟩:∃T e,zx pv fx fy c alt x (yz r) spd bank oalt gr=(T,e):=⟨_,_,rfl⟩;rw[hT]at he;rw[ul hg hT he]at h;cases h
  ·rw[uk hg]at h;exact xj r _ _ _ _ _ _ t h
end Go.Proofs.YtcgpbnlhnafhjaaGreatDoor
