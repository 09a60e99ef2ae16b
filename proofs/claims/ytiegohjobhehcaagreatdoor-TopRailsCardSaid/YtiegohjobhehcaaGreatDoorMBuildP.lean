/-
  Chapter 26 and 27 as plain functions: patterns, turns that are flown by or over, how a path is built out of tracks. No program.
-/
import Derived.Test.YtiegohjobhehcaaGreatDoorMPlanP1
namespace Go.Proofs.YtiegohjobhehcaaGreatDoor
set_option linter.unusedVariables false
def Yg(tn:Int):Int:=if tn=2 then 32400000 else-32400000
def Jj(course inb tn:Int):Int:=if tn=2 then norm (norm (norm inb+64800000)-norm course)else norm (norm course-norm (norm inb+64800000))
structure LP where
 (x1 y1 x2 y2 x3 y3 cx cy dx dy:Int)
def uR(inb tn:Int):Int:=inb+Yg tn
def bS(fx fy inb tn leg rad:Int):Int:=
 if(qw fx fy&&(decide (tn=1)||decide (tn=2)))=false then 1 else
 if inb<0∨inb≥129600000∨leg<1∨leg>2000000∨rad<1∨rad>2000000 then 2 else
 if((zn fx fy (uR inb tn) rad).2.2=0∧(zn fx fy (uR inb tn) (2*rad)).2.2=0∧(zn fx fy (inb+64800000) leg).2.2=0∧
  qw ((zn fx fy (uR inb tn) (2*rad)).1+(zn fx fy (inb+64800000) leg).1-fx) ((zn fx fy (uR inb tn) (2*rad)).2.1+(zn fx fy (inb+64800000) leg).2.1-fy)=true∧
  qw ((zn fx fy (uR inb tn) rad).1+(zn fx fy (inb+64800000) leg).1-fx) ((zn fx fy (uR inb tn) rad).2.1+(zn fx fy (inb+64800000) leg).2.1-fy)=true)then 0 else 2
def QC(fx fy inb tn leg rad:Int):LP:=
 ⟨(zn fx fy (uR inb tn) (2*rad)).1,(zn fx fy (uR inb tn) (2*rad)).2.1,
  (zn fx fy (uR inb tn) (2*rad)).1+(zn fx fy (inb+64800000) leg).1-fx,(zn fx fy (uR inb tn) (2*rad)).2.1+(zn fx fy (inb+64800000) leg).2.1-fy,
  (zn fx fy (inb+64800000) leg).1,(zn fx fy (inb+64800000) leg).2.1,
  (zn fx fy (uR inb tn) rad).1,(zn fx fy (uR inb tn) rad).2.1,
  (zn fx fy (uR inb tn) rad).1+(zn fx fy (inb+64800000) leg).1-fx,(zn fx fy (uR inb tn) rad).2.1+(zn fx fy (inb+64800000) leg).2.1-fy⟩
def tK(ax ay bx b_y:Int):El:=⟨false,ax,ay,bx,b_y,0,0,0,0,0,zk ax ay bx b_y,0,false⟩
def KC(ax ay bx b_y cx cy rad f s:Int):El:=⟨true,ax,ay,bx,b_y,cx,cy,rad,norm f,s,zq cx cy rad (norm f) s,0,false⟩
def Jk(fx fy inb tn leg rad:Int):List El:=
 let s:=QC fx fy inb tn leg rad
 [KC fx fy s.x1 s.y1 s.cx s.cy rad (uR inb tn+64800000) (2*Yg tn),tK s.x1 s.y1 s.x2 s.y2,KC s.x2 s.y2 s.x3 s.y3 s.dx s.dy rad (uR inb tn) (2*Yg tn),tK s.x3 s.y3 fx fy]
def ZN(w fx fy inb tn leg rad:Int):List El:=
 let s:=QC fx fy inb tn leg rad
 if w<25200000 then[tK fx fy s.x2 s.y2,KC s.x2 s.y2 s.x3 s.y3 s.dx s.dy rad (uR inb tn) (2*Yg tn),tK s.x3 s.y3 fx fy]else
 if w≥90000000 then[tK fx fy s.x3 s.y3,KC s.x3 s.y3 s.x2 s.y2 s.dx s.dy rad (uR inb tn+64800000) (-(2*Yg tn)),tK s.x2 s.y2 fx fy]else[]
def aG(crs tn:Int):Int:=crs+(Yg tn).tdiv 2
def aH(crs tn:Int):Int:=aG crs tn-Yg tn
def uU(fx fy crs tn dst rad:Int):Int×List El:=
 if(qw fx fy&&(decide (tn=1)||decide (tn=2)))=false then(1,[])else
 if crs<0∨crs≥129600000∨dst<1∨dst>2000000∨rad<1∨rad>666666 then(2,[])else
 let q:=zn fx fy crs dst
 let s:=zn q.1 q.2.1 (aG crs tn) (3*rad)
 let c:=zn s.1 s.2.1 (aH crs tn) rad
 let t:=zn s.1 s.2.1 (aH crs tn) (2*rad)
 let m:=zn q.1 q.2.1 crs (kN 2 (2*rad*1414213562) 1000000000)
 if q.2.2=0∧s.2.2=0∧c.2.2=0∧t.2.2=0∧m.2.2=0 then
  (0,[tK fx fy q.1 q.2.1,tK q.1 q.2.1 s.1 s.2.1,KC s.1 s.2.1 t.1 t.2.1 c.1 c.2.1 rad (aH crs tn+64800000) (-(2*Yg tn)),tK t.1 t.2.1 m.1 m.2.1,tK m.1 m.2.1 fx fy])else(2,[])
structure Dw where
 els:List El
 px:Int
 py:Int
 gp:Bool
def ZO(d:Dw)(x:El):Dw:=⟨d.els++[{x with g:=d.gp}],x.bx,x.b_y,false⟩
def yX(d:Dw)(qx qy n:Int):Dw:=if d.px=qx∧d.py=qy then d else ZO d ⟨false,d.px,d.py,qx,qy,0,0,0,0,0,zk d.px d.py qx qy,n,false⟩
def uV(d:Dw)(cx cy r f s qx qy n:Int):Dw:=if 1≤zq cx cy r f s then ZO d ⟨true,d.px,d.py,qx,qy,cx,cy,r,f,s,zq cx cy r f s,n,false⟩else yX d qx qy n
def bT(n:Int):Dw→List El→Dw
 |d,[]=>d
 |d,x::r=>bT n (if 1≤x.L then ZO d {x with n:=n}else d) r
def aI(x y:Tk):Int:=min (x.len.tdiv 2) (y.len.tdiv 2)
def ZG(rad D lim:Int):Option Int:=
 if D=0∨54000000<(D.natAbs:Int)then none else
 if lim<jM rad D then(if rad*lim/jM rad D<600 then none else some (rad*lim/jM rad D))else some rad
theorem SB{rad lim lead:Int}(hr:1≤rad)(h0:0≤lim)(h:lim<lead):0≤rad*lim/lead∧rad*lim/lead<rad:=by
 have hl:0<lead:=qg;have h1:rad*lim<rad*lead:=Int.mul_lt_mul_of_pos_left h qg;exact⟨Int.ediv_nonneg (Int.mul_nonneg qg h0) qg,Int.ediv_lt_of_lt_mul hl (by rw[Int.mul_comm]at h1;rw[Int.mul_comm rad lead]at h1;rw[Int.mul_comm rad lim];rw[Int.mul_comm rad lead];exact h1)⟩
def xN(d:Dw)(xn yn:Int)(F:List Int):Option Dw:=
 match F with
 | [cx,cy,r,f,s,ax,ay,bx,b_y,_]=>
   if(jJ cx cy r f (s.tdiv 2) (zq cx cy r f (s.tdiv 2))).2.2.2≠0 then none else
   some (uV (uV (yX d ax ay xn) cx cy r f (s.tdiv 2) (jJ cx cy r f (s.tdiv 2) (zq cx cy r f (s.tdiv 2))).1 (jJ cx cy r f (s.tdiv 2) (zq cx cy r f (s.tdiv 2))).2.1 xn) cx cy r (norm (f+s.tdiv 2)) (s-s.tdiv 2) bx b_y yn)
 |_=>none
def aJ(rad:Int)(d:Dw)(x y:Tk):Option Dw:=
 match ZG rad (zN (qO x.ax x.ay x.bx x.b_y).1 (qO y.ax y.ay y.bx y.b_y).1) (aI x y)with
 |none=>none
 |some r=>
  if(bY x.ax x.ay x.bx x.b_y y.bx y.b_y r).2≠0∨(bY x.ax x.ay x.bx x.b_y y.bx y.b_y r).1.getD 9 0=0∨aI x y<(bY x.ax x.ay x.bx x.b_y y.bx y.b_y r).1.getD 9 0 then none else
  xN d x.n y.n (bY x.ax x.ay x.bx x.b_y y.bx y.b_y r).1
def YI(co D:Int):Int:=co+if 0<D then 32400000 else-32400000
def Vv(rad:Int)(d:Dw)(x y:Tk):Option (Dw×Tk):=
 let D:=zN x.co y.ci
 let right:=decide (0<D)
 let c:=zn x.bx x.b_y (YI x.co D) rad
 let t:=QX c.1 c.2.1 rad y.bx y.b_y right
 if D=0 then none else if c.2.2≠0 then none else if t.2.2≠0 then none else
 if(yN x.bx x.b_y c.1 c.2.1 t.1 t.2.1 right).2≠0 then none else
 match(yN x.bx x.b_y c.1 c.2.1 t.1 t.2.1 right).1 with
 | [cx,cy,r,f,s]=>
   some (uV (yX d x.bx x.b_y x.n) cx cy r f s t.1 t.2.1 y.n,
    if t.1=y.bx∧t.2.1=y.b_y then{y with ax:=t.1,ay:=t.2.1,co:=y.ci,len:=0}
    else{y with ax:=t.1,ay:=t.2.1,ci:=(qO t.1 t.2.1 y.bx y.b_y).1,co:=(qO t.1 t.2.1 y.bx y.b_y).1,len:=zk t.1 t.2.1 y.bx y.b_y})
 |_=>none
def ZP(rad:Int)(d:Dw)(lx ly:En)(x y:Tk):Option (Dw×Tk):=
 if x.k≠1∨y.k≠1∨x.len<1∨y.len<1∨¬(y.ax=x.bx∧y.ay=x.b_y)then none else
 if lx.ov=true then(if ly.ty=4 then Vv rad d x y else none)else
 if lx.ty=7∨lx.ty=8∨lx.ty=9∨lx.ty=10∨lx.ty=11∨lx.ty=12 then none else
 (aJ rad d x y).map (fun d'=>(d',y))
def QA(rad:Int)(d:Dw)(lx:En)(x:Tk):Int×Dw:=
 if lx.ty=17 then((uU x.ax x.ay lx.crs lx.tn lx.dst rad).1,bT x.n d (uU x.ax x.ay lx.crs lx.tn lx.dst rad).2)else
 if bS x.ax x.ay lx.crs lx.tn lx.dst rad≠0 then(bS x.ax x.ay lx.crs lx.tn lx.dst rad,d)else
 (0,bT x.n d (ZN (Jj x.ci lx.crs lx.tn) x.ax x.ay lx.crs lx.tn lx.dst rad++Jk x.ax x.ay lx.crs lx.tn lx.dst rad))
def vB(l:List En)(x:Tk):En:=(l[x.n.toNat]?).getD Kf
def ko(l:List En)(first done:Bool)(d:Dw)(x:Tk):Dw:=
 let d1:=if x.g=true∨(first=true∧(vB l x).ty=1)then{d with px:=x.ax,py:=x.ay,gp:=x.g&& !d.els.isEmpty}else d
 if done=true then d1 else yX d1 x.ax x.ay x.n
def jm(l:List En)(rad:Int):Bool→Bool→Dw→Tk→List Tk→Dw×Int×Int
 |first,done,d,x,[]=>
  if x.k=2 then(uV (ko l first done d x) x.cx x.cy x.r x.f x.s x.bx x.b_y x.n,0,0)else
  if x.k=3 then(if(QA rad (ko l first done d x) (vB l x) x).1≠0 then(d,x.n,(QA rad (ko l first done d x) (vB l x) x).1)else((QA rad (ko l first done d x) (vB l x) x).2,0,0))else
  (yX (ko l first done d x) x.bx x.b_y x.n,0,0)
 |first,done,d,x,y::r=>
  if x.k=2 then jm l rad false false (uV (ko l first done d x) x.cx x.cy x.r x.f x.s x.bx x.b_y x.n) y r else
  if x.k=3 then(if(QA rad (ko l first done d x) (vB l x) x).1≠0 then(d,x.n,(QA rad (ko l first done d x) (vB l x) x).1)else jm l rad false false (QA rad (ko l first done d x) (vB l x) x).2 y r)else
  match(if y.g=true then none else ZP rad (ko l first done d x) (vB l x) (vB l y) x y)with
  |some (d',y')=>jm l rad false true d' y' r
  |none=>jm l rad false false (yX (ko l first done d x) x.bx x.b_y x.n) y r
def uk(l:List En)(fx fy:Int)(R:Int×Int)(T:List Tk×Int×Int):List El×Int×Int:=
 if T.2.2≠0 then([],T.2)else if R.2≠0 then([],0,R.2)else
 match T.1 with
 | []=>([],0,0)
 |x::r=>
  if(jm l R.1 true false ⟨[],fx,fy,false⟩ x r).2.2≠0 then([],(jm l R.1 true false ⟨[],fx,fy,false⟩ x r).2)else
  if((jm l R.1 true false ⟨[],fx,fy,false⟩ x r).1.els.length:Int)>500 then([],0,3)else((jm l R.1 true false ⟨[],fx,fy,false⟩ x r).1.els,0,0)
theorem SF{rad:Int}{d:Dw}{x y:Tk}{r:Dw×Tk}(hd:Vv rad d x y=some r):r.2.k=y.k:=by
 unfold Vv at hd;dsimp only at hd;split at hd
 ·cases hd
 split at hd
 ·cases hd
 split at hd
 ·cases hd
 split at hd
 ·cases hd
 split at hd
 ·injection hd with hd;subst hd;dsimp only;split<;>rfl
 ·cases hd
theorem SG{rad:Int}{d:Dw}{lx ly:En}{x y:Tk}{r:Dw×Tk}(hd:ZP rad d lx ly x y=some r):r.2.k=1:=by
 unfold ZP at hd;split at hd
 ·cases hd
 rename_i hk;have hy:y.k=1:=qg;split at hd
 ·split at hd
  ·exact(SF hd).trans hy
  ·cases hd
 split at hd
 ·cases hd
 ·obtain⟨d',h1,h2⟩:=Option.map_eq_some_iff.1 hd;subst h2;exact hy
theorem cU{ax ay bx b_y:Int}(h1:qw ax ay=true)(h2:qw bx b_y=true)(h:zk ax ay bx b_y<1):bx=ax∧b_y=ay:=by
 unfold zk at h;rw[h1,h2,if_pos (by rfl)]at h;have h3:kE (yH ax ay bx b_y).toNat=0:=qg;have h4:=(JB _).1 h3
 have hx:0≤(bx-ax)*(bx-ax):=by
  rcases Int.le_total 0 (bx-ax)with q|q
  ·exact Int.mul_nonneg q q
  ·have:=Int.mul_nonneg (show(0:Int)≤ -(bx-ax) by omega) (show(0:Int)≤ -(bx-ax) by omega)
   rwa[Int.neg_mul_neg]at this
 have hy:0≤(b_y-ay)*(b_y-ay):=by
  rcases Int.le_total 0 (b_y-ay)with q|q
  ·exact Int.mul_nonneg q q
  ·have:=Int.mul_nonneg (show(0:Int)≤ -(b_y-ay) by omega) (show(0:Int)≤ -(b_y-ay) by omega)
   rwa[Int.neg_mul_neg]at this
 have h5:(bx-ax)*(bx-ax)+(b_y-ay)*(b_y-ay)≤0:=by
  unfold yH at h4;omega
 have e1:(bx-ax)*(bx-ax)=0:=qg;have e2:(b_y-ay)*(b_y-ay)=0:=qg;have f1:bx-ax=0:=by rcases Int.mul_eq_zero.1 e1 with q|q<;>exact q
 have f2:b_y-ay=0:=by rcases Int.mul_eq_zero.1 e2 with q|q<;>exact q
 omega
theorem br{px py c d:Int}(h:(zn px py c d).2.2=0):qw (zn px py c d).1 (zn px py c d).2.1=true:=by
 unfold zn at h⊢;split at h
 ·cases h
 ·rename_i h1;rw[if_neg h1];split at h
  ·cases h
  ·rename_i h2;rw[if_neg h2];split at h
   ·rename_i h3;rw[if_pos h3];exact h3
   ·cases h
theorem aK{fx fy inb tn leg rad:Int}(h:bS fx fy inb tn leg rad=0):
 qw fx fy=true∧(1≤rad∧rad≤2000000)∧qw (QC fx fy inb tn leg rad).x1 (QC fx fy inb tn leg rad).y1=true∧qw (QC fx fy inb tn leg rad).x2 (QC fx fy inb tn leg rad).y2=true∧qw (QC fx fy inb tn leg rad).x3 (QC fx fy inb tn leg rad).y3=true∧
 qw (QC fx fy inb tn leg rad).cx (QC fx fy inb tn leg rad).cy=true∧qw (QC fx fy inb tn leg rad).dx (QC fx fy inb tn leg rad).dy=true:=by
 unfold bS at h;split at h
 ·cases h
 rename_i h1;split at h
 ·cases h
 rename_i h2;split at h
 ·rename_i h3;obtain⟨a1,a2,a3,a4,a5⟩:=h3
  have hv:qw fx fy=true:=by
   rcases hq:qw fx fy with _|_
   ·rw[hq]at h1;exact absurd rfl h1
   ·rfl
  exact⟨hv,by omega,br a2,a4,br a3,br a1,a5⟩
 ·cases h
def PJ(t:Tk):Prop:=t.k=1→t.ci=t.co∧ -8000000≤t.len∧t.len≤8000000
def mG(p:Tk×Int):Prop:=p.2=0→PJ p.1
theorem zu{q:Prop} [Decidable q]{a b:Tk×Int}(ha:mG a)(hb:mG b):mG (if q then a else b):=by split<;>assumption
theorem cV(ax ay bx b_y c:Int){d:Int}(h: -8000000≤d∧d≤8000000):PJ (av 1 ax ay bx b_y c d):=fun _=>⟨rfl,h⟩
theorem YX(ax ay bx b_y:Int): -8000000≤zk ax ay bx b_y∧zk ax ay bx b_y≤8000000:=by
 have:=bD ax ay bx b_y;omega
theorem zP(e:Int):mG (Tk.zero,e):=fun _ h=>by cases h
theorem QD(ax ay bx b_y c:Int):PJ (zF ax ay bx b_y c):=by
 unfold zF;split
 ·exact cV _ _ _ _ _ qG
 ·exact cV _ _ _ _ _ (YX _ _ _ _)
theorem Jl(ax ay c l:Int):mG (bi ax ay c l):=by
 unfold bi;split
 ·rename_i h;intro _;refine cV _ _ _ _ _ ?_;unfold zn at h;split at h
  ·cases h
  split at h
  ·cases h
  ·omega
 ·exact zP _
theorem PK(ax ay bx b_y:Int): -8000000≤sJ ax ay bx b_y∧sJ ax ay bx b_y≤8000000:=by
 unfold sJ;split
 ·decide
 ·exact YX _ _ _ _
theorem PM(fx fy c:Int)(x:En):mG (ux fx fy c x):=by
 unfold ux;exact zu (zP _) (zu (zP _) (zu (zP _) (zu (fun _=>QD _ _ _ _ _) (zu (zP _) (fun _=>cV _ _ _ _ _ (PK _ _ _ _))))))
theorem PN(fx fy:Int)(x:En):mG (vA fx fy x):=by
 unfold vA;refine zu (zP _) ?_;split
 ·exact zu (zP _) (zu (zP _) (zu (zP _) (fun _ h=>by cases h)))
 ·exact zP _
theorem KN(fx fy alt:Int)(x:En)(gr:Int):mG (kq fx fy alt x gr):=by
 unfold kq;exact zu (zP _) (Jl _ _ _ _)
theorem aP(a b c:Int):mG (Qt a b c):=by
 unfold Qt;exact zu (fun _ h=>by cases h) (Jl _ _ _ _)
theorem Cv(fx fy:Int)(x:En):mG (vV fx fy x):=by
 unfold vV;exact zu (zP _) (zu (zP _) (zu (zP _) (zu (Jl _ _ _ _) (zu (zP _) (Jl _ _ _ _)))))
theorem Cw(fx fy:Int)(x:En):mG (uQ fx fy x):=by
 unfold uQ;exact zu (zP _) (zu (zP _) (zu (zP _) (zu (zP _) (fun _=>cV _ _ _ _ _ (YX _ _ _ _)))))
theorem Cx(fx fy:Int)(x y:En):mG (kK fx fy x y):=by
 unfold kK;exact zu (zP _) (zu (zP _) (zu (zP _) (zu (zP _) (zu (zP _) (fun _=>cV _ _ _ _ _ (YX _ _ _ _))))))
theorem PP(fx fy c alt:Int)(x y:En)(gr:Int):mG (uT fx fy c alt x y gr):=by
 unfold uT;exact zu (fun _=>QD _ _ _ _ _) (zu (fun _=>QD _ _ _ _ _) (zu (PM _ _ _ _) (zu (PN _ _ _) (zu (KN _ _ _ _ _) (zu (KN _ _ _ _ _) (zu (Jl _ _ _ _) (zu (aP _ _ _) (zu (Cv _ _ _) (zu (Cw _ _ _) (zu (Cx _ _ _ _) (fun _ h=>by cases h)))))))))))
theorem cW(pv:Option En)(fx fy c alt:Int)(x y:En)(spd bank oalt gr:Int):mG (zy pv fx fy c alt x y spd bank oalt gr):=by
 unfold zy;refine zu (fun _ _=>⟨rfl,by show(-8000000:Int)≤0;decide,by show(0:Int)≤8000000;decide⟩) ?_;unfold qB;exact zu (zP _) (zu (zP _) (zu (zP _) (zu (zP _) (zu (zP _) (PP _ _ _ _ _ _ _)))))
theorem ZQ{spd bank oalt gr:Int}:∀(l:List En) (pv:Option En) (i:Nat) (fx fy c alt:Int) (t:Tk),t∈(zU spd bank oalt gr pv i fx fy c alt l).1→PJ t
 | [],pv,i,fx,fy,c,alt,t,h=>by cases h
 |x::r,pv,i,fx,fy,c,alt,t,h=>by
  rcases hg:x.gap with _|_
  ·by_cases he:(zy pv fx fy c alt x (jV r) spd bank oalt gr).2=0
   ·obtain⟨T,hT⟩:∃T,zy pv fx fy c alt x (jV r) spd bank oalt gr=(T,0):=⟨_,Prod.ext rfl he⟩;rw[vN hg hT]at h;unfold kG at h;split at h
    ·cases h
    ·have hs:=cW pv fx fy c alt x (jV r) spd bank oalt gr he;rw[hT]at hs;rcases List.mem_append.1 h with h|h
     ·rw[List.mem_singleton.1 h];exact hs
     ·exact ZQ r _ _ _ _ _ _ t h
   ·obtain⟨T,e,hT⟩:∃T e,zy pv fx fy c alt x (jV r) spd bank oalt gr=(T,e):=⟨_,_,rfl⟩;rw[hT]at he;rw[vK hg hT he]at h;cases h
  ·rw[vJ hg]at h;exact ZQ r _ _ _ _ _ _ t h
end Go.Proofs.YtiegohjobhehcaaGreatDoor
