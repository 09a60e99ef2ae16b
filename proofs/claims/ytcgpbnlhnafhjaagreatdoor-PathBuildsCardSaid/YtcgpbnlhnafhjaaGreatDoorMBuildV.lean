/-
  The elements that a drawer draws are sound by themselves (points, lengths), given valid points. No program.
-/
import Derived.Test.YtcgpbnlhnafhjaaGreatDoorMBuildP
namespace Go.Proofs.YtcgpbnlhnafhjaaGreatDoor
set_option linter.unusedVariables false
theorem wA{pv:Option En}{x:En}{lo:Bool}{la:Int}(h:(yQ pv x lo la).1=0)(hg:x.gap=false):ku x=0:=by
 unfold yQ at h;rw[if_neg (by rw[hg];simp)]at h;split at h
 ·rename_i h1;exact absurd h h1
 ·rename_i h1;exact Classical.not_not.1 h1
theorem YT:∀(l:List En) (pv:Option En) (la:Int),yH pv la l=0→∀x∈l,x.gap=false→ku x=0
 | [],pv,la,_,x,hx,_=>by cases hx
 |y::r,pv,la,h,x,hx,hg=>by
  unfold yH at h;split at h
  ·rename_i h1;exact absurd h h1
  ·rename_i h1;rcases List.mem_cons.1 hx with rfl|hx
   ·exact wA (Classical.not_not.1 h1) hg
   ·exact YT r _ _ h x hx hg
def rise:Int→List Tk→Prop
 |_,[]=>True
 |m,y::r=>m≤y.n∧rise y.n r
theorem ny(s:Int):(0≤s∧s.tdiv 2=s/2)∨(s<0∧s.tdiv 2= -((-s)/2)):=by
 by_cases h:s<0
 ·right;refine⟨h,?_⟩;have:(- -s).tdiv 2= -((-s).tdiv 2):=Int.neg_tdiv _ _;rw[Int.neg_neg]at this;rw[this,Int.tdiv_eq_ediv_of_nonneg DL]
 ·exact .inl ⟨DL,Int.tdiv_eq_ediv_of_nonneg DL⟩
theorem Pw{p:Prop} [Decidable p]{a b:Int}(h:(if p then a else b)=0)(ha:a≠0):¬p∧b=0:=by
 split at h
 ·exact absurd h ha
 ·rename_i h1;exact⟨h1,h⟩
theorem ME{e b:Int}(h:(if e≠0 then e else b)=0):e=0∧b=0:=by
 split at h
 ·rename_i h1;exact absurd h h1
 ·rename_i h1;exact⟨Classical.not_not.1 h1,h⟩
theorem YU{x:En}(h:zU x=0):(1≤x.ty∧x.ty≤17)∧¬(if qZ x.ty 2 then decide (x.tn=1)||decide (x.tn=2)else decide (x.tn=0))=false∧jS x.crs (qZ x.ty 4) 0 129599999=0:=by
 unfold zU at h;obtain⟨a1,h⟩:=Pw h DQ;obtain⟨_,h⟩:=ME h;obtain⟨_,h⟩:=ME h;obtain⟨a2,h⟩:=Pw h DQ;obtain⟨_,h⟩:=Pw h DQ;obtain⟨a3,_⟩:=ME h;exact⟨DL,a2,a3⟩
theorem YV{x:En}(h:zU x=0):0≤x.crs∧x.crs<129600000:=by
 have h2:=mW (YU h).2.2;rcases hu:qZ x.ty 4 with _|_
 ·have:=h2.2 hu;omega
 ·have:=h2.1 hu;omega
theorem nz{x:En}(h:zU x=0)(ht:qZ x.ty 2=true):x.tn=1∨x.tn=2:=by
 have h1:=(YU h).2.1;rw[if_pos ht]at h1
 have:(decide (x.tn=1)||decide (x.tn=2))=true:=by
  rcases hq:(decide (x.tn=1)||decide (x.tn=2))with _|_
  ·exact absurd hq h1
  ·rfl
 simpa using this
theorem UK{x:En}(h:zU x=0):1≤x.ty∧x.ty≤17:=(YU h).1
theorem nA{t:Int}(h:14≤t)(h2:t≤17):qZ t 2=true:=by
 obtain rfl|rfl|rfl|rfl:t=14∨t=15∨t=16∨t=17:=DL
 all_goals decide
theorem dK{x:En}(h:ku x=0):zU x=0:=by
 unfold ku at h;split at h
 ·rename_i h1;exact absurd h h1
 ·rename_i h1;exact Classical.not_not.1 h1
def QV(a:Int):Prop:=0≤a∧a<129600000
theorem xk:QV 0:=⟨DQ,DQ⟩
def BV(t:Tk):Prop:=QV t.ci∧QV t.co
def nB(p:Tk×Int):Prop:=p.2=0→BV p.1
theorem zE{q:Prop} [Decidable q]{a b:Tk×Int}(ha:nB a)(hb:nB b):nB (if q then a else b):=by split<;>assumption
theorem dN{ax ay bx b_y c d:Int}(h:QV c):BV (pK 1 ax ay bx b_y c d):=⟨h,h⟩
theorem zQ(e:Int):nB (Tk.zero,e):=fun _=>⟨xk,xk⟩
theorem Jy(ax ay bx b_y:Int):QV (qN ax ay bx b_y).1:=by
 unfold qN;split
 ·exact xk
 split
 ·exact xk
 ·exact uU _ _
theorem xU{ax ay bx b_y c:Int}(h:QV c):BV (zf ax ay bx b_y c):=by
 unfold zf;split
 ·exact dN h
 ·exact dN (Jy _ _ _ _)
theorem Qu{ax ay c l:Int}(h:QV c):nB (kf ax ay c l):=by
 unfold kf;split
 ·exact fun _=>dN h
 ·exact zQ _
theorem iW{fx fy c:Int}{x:En}(h:QV c)(hx:QV x.crs):nB (vp fx fy c x):=by
 unfold vp;exact zE (zQ _) (zE (zQ _) (zE (zQ _) (zE (fun _=>xU h) (zE (zQ _) (fun _=>dN hx)))))
theorem fK(cx cy r f s al:Int):QV (jp cx cy r f s al).2.2.1:=by
 unfold jp;split
 ·exact xk
 split
 ·exact xk
 split
 ·exact zH _
 ·exact xk
theorem iX(fx fy:Int)(x:En):nB (jZ fx fy x):=by
 unfold jZ;refine zE (zQ _) ?_;split
 ·exact zE (zQ _) (zE (zQ _) (zE (zQ _) (fun _=>⟨fK _ _ _ _ _ _,fK _ _ _ _ _ _⟩)))
 ·exact zQ _
theorem KC{fx fy alt gr:Int}{x:En}(hx:QV x.crs):nB (yS fx fy alt x gr):=by
 unfold yS;exact zE (zQ _) (Qu hx)
theorem fL{a b c:Int}(h:QV c):nB (gG a b c):=by
 unfold gG;by_cases h0:(kf a b c 300000).2=0
 ·rw[if_pos h0];have:=Qu (ax:=a) (ay:=b) (l:=300000) h h0;exact fun _=>this
 ·rw[if_neg h0];exact Qu h
theorem Px{fx fy:Int}{x:En}(hx:QV x.crs):nB (yt fx fy x):=by
 unfold yt;exact zE (zQ _) (zE (zQ _) (zE (zQ _) (zE (Qu hx) (zE (zQ _) (Qu hx)))))
theorem Py{fx fy:Int}{x:En}(hx:QV x.crs):nB (vR fx fy x):=by
 unfold vR;exact zE (zQ _) (zE (zQ _) (zE (zQ _) (zE (zQ _) (fun _=>dN hx))))
theorem Pz{fx fy:Int}{x y:En}(hx:QV x.crs):nB (yD fx fy x y):=by
 unfold yD;exact zE (zQ _) (zE (zQ _) (zE (zQ _) (zE (zQ _) (zE (zQ _) (fun _=>dN hx)))))
theorem iY{c:Int}{x:En}(h:QV c)(hx:QV x.crs):BV (jq c x):=by
 refine⟨h,?_⟩
 show QV (if x.ty=17 then norm (x.crs+64800000)else x.crs)
 split
 ·exact zH _
 ·exact hx
theorem iZ{fx fy c alt gr:Int}{x y:En}(h:QV c)(hx:QV x.crs):nB (yT fx fy c alt x y gr):=by
 unfold yT;exact zE (fun _=>xU h) (zE (fun _=>xU h) (zE (iW h hx) (zE (iX _ _ _) (zE (KC hx) (zE (KC hx) (zE (Qu hx) (zE (fL hx) (zE (Px hx) (zE (Py hx) (zE (Pz hx) (fun _=>iY h hx)))))))))))
theorem dO{pv:Option En}{fx fy c alt spd bank oalt gr:Int}{x y:En}(h:QV c)(hx:QV x.crs):nB (zx pv fx fy c alt x y spd bank oalt gr):=by
 unfold zx;refine zE (fun _=> ?_) ?_
 ·have:QV (if x.ty=3 then x.crs else c):=by split<;>assumption
  exact⟨this,this⟩
 ·unfold qp;exact zE (zQ _) (zE (zQ _) (zE (zQ _) (zE (zQ _) (zE (zQ _) (iZ h hx)))))
theorem xV{spd bank oalt gr:Int}:∀(l:List En) (pv:Option En) (i:Nat) (fx fy c alt:Int),QV c→(∀x∈l,x.gap=false→QV x.crs)→∀t∈(zS spd bank oalt gr pv i fx fy c alt l).1,BV t
 | [],pv,i,fx,fy,c,alt,hc,hl,t,h=>by cases h
 |x::r,pv,i,fx,fy,c,alt,hc,hl,t,h=>by
  have hr:∀y∈r,y.gap=false→QV y.crs:=fun y hy=>hl y (.tail _ hy)
  rcases hg:x.gap with _|_
  ·by_cases he:(zx pv fx fy c alt x (yz r) spd bank oalt gr).2=0
   ·obtain⟨T,hT⟩:∃T,zx pv fx fy c alt x (yz r) spd bank oalt gr=(T,0):=⟨_,Prod.ext rfl he⟩;have hs:=dO (pv:=pv) (fx:=fx) (fy:=fy) (alt:=alt) (y:=yz r) (spd:=spd) (bank:=bank) (oalt:=oalt) (gr:=gr) hc (hl x (.head _) hg) he;rw[hT]at hs;rw[yZ hg hT]at h;unfold vZ at h;split at h
    ·cases h
    ·rcases List.mem_append.1 h with h|h
     ·rw[List.mem_singleton.1 h];exact hs
     ·exact xV r _ _ _ _ _ _ hs.2 hr t h
   ·obtain⟨T,e,hT⟩:∃T e,zx pv fx fy c alt x (yz r) spd bank oalt gr=(T,e):=⟨_,_,rfl⟩;rw[hT]at he;rw[ul hg hT he]at h;cases h
  ·rw[uk hg]at h;exact xV r _ _ _ _ _ _ hc hr t h
theorem lc{rad:Int}{d:Dw}{x y:Tk}{r:Dw×Tk}(hy:BV y)(hd:Yw rad d x y=some r):BV r.2:=by
 unfold Yw at hd;dsimp only at hd;split at hd
 ·cases hd
 split at hd
 ·cases hd
 split at hd
 ·cases hd
 split at hd
 ·cases hd
 split at hd
 ·injection hd with hd;subst hd;dsimp only;split
  ·exact⟨hy.1,hy.1⟩
  ·exact⟨Jy _ _ _ _,Jy _ _ _ _⟩
 ·cases hd
theorem ld{rad:Int}{d:Dw}{x y:Tk}{r:Dw×Tk}(hd:Yw rad d x y=some r):r.2.len≤8000000:=by
 unfold Yw at hd;dsimp only at hd;split at hd
 ·cases hd
 split at hd
 ·cases hd
 split at hd
 ·cases hd
 split at hd
 ·cases hd
 split at hd
 ·injection hd with hd;subst hd;dsimp only;split
  ·show(0:Int)≤8000000
   decide
  ·exact Int.le_trans (uy _ _ _ _).2 DQ
 ·cases hd
structure MF(t:Tk):Prop where
 crs:BV t
 len:t.k=1→t.len≤8000000
theorem Nx{rad:Int}{d:Dw}{lx ly:En}{x y:Tk}{r:Dw×Tk}(hy:MF y)(hd:QU rad d lx ly x y=some r):MF r.2:=by
 unfold QU at hd;split at hd
 ·cases hd
 split at hd
 ·split at hd
  ·exact⟨lc hy.crs hd,fun _=>ld hd⟩
  ·cases hd
 split at hd
 ·cases hd
 ·obtain⟨d',h1,h2⟩:=Option.map_eq_some_iff.1 hd;subst h2;exact hy
def BW(P:Int→Prop)(d:Dw):Prop:=∀a∈d.els,P a.n
theorem nC{P:Int→Prop}{d:Dw}{x:El}(h:BW P d)(hx:P x.n):BW P (xO d x):=fun y hy=>by
 rcases List.mem_append.1 hy with hy|hy
 ·exact h y hy
 ·rw[List.mem_singleton.1 hy];exact hx
theorem YW{P:Int→Prop}{d:Dw}(h:BW P d)(qx qy:Int){n:Int}(hn:P n):BW P (jf d qx qy n):=by
 unfold jf;split
 ·exact h
 ·exact nC h hn
theorem UL{P:Int→Prop}{d:Dw}(h:BW P d)(cx cy r f s qx qy:Int){n:Int}(hn:P n):BW P (vq d cx cy r f s qx qy n):=by
 unfold vq;split
 ·exact nC h hn
 ·exact YW h _ _ hn
theorem PD{P:Int→Prop}{rad:Int}{d:Dw}{lx ly:En}{x y:Tk}{r:Dw×Tk}(h:BW P d)(hx:P x.n)(hy:P y.n)(hd:QU rad d lx ly x y=some r):BW P r.1∧r.2.n=y.n:=by
 unfold QU at hd;split at hd
 ·cases hd
 split at hd
 ·split at hd
  ·unfold Yw at hd;dsimp only at hd;split at hd
   ·cases hd
   split at hd
   ·cases hd
   split at hd
   ·cases hd
   split at hd
   ·cases hd
   split at hd
   ·injection hd with hd;subst hd;refine⟨UL (YW h _ _ hx) _ _ _ _ _ _ _ hy,?_⟩;dsimp only;split<;>rfl
   ·cases hd
  ·cases hd
 split at hd
 ·cases hd
 ·obtain⟨d',h1,h2⟩:=Option.map_eq_some_iff.1 hd;subst h2;refine⟨?_,rfl⟩;unfold nn at h1;split at h1
  ·cases h1
  split at h1
  ·cases h1
  unfold ut at h1;split at h1
  ·split at h1
   ·cases h1
   ·injection h1 with h1;subst h1;exact UL (UL (YW h _ _ hx) _ _ _ _ _ _ _ hx) _ _ _ _ _ _ _ hy
  ·cases h1
theorem bV{pa pb:ByteArray}{l:List En}{act fx fy c spd bank oalt gr:Int}(h:(zr pa pb l act fx fy c spd bank oalt gr).2.2=0):
 jR pa pb l act=0∧qw fx fy=true∧zr pa pb l act fx fy c spd bank oalt gr=zS spd bank oalt gr none (zM act) fx fy c oalt (l.drop (zM act)):=by
 unfold zr at h⊢;by_cases h1:jR pa pb l act≠0
 ·rw[if_pos h1]at h;exact absurd h h1
 rw[if_neg h1]at h⊢;by_cases h2:jY spd bank oalt gr≠0
 ·rw[if_pos h2]at h;exact absurd h h2
 rw[if_neg h2]at h⊢;by_cases h3:qw fx fy=false
 ·rw[if_pos h3]at h;cases h
 rw[if_neg h3]at h⊢;by_cases h4:c<0∨c≥129600000
 ·rw[if_pos h4]at h;cases h
 rw[if_neg h4];exact⟨Classical.not_not.1 h1,by rcases hv:qw fx fy with _|_<;>simp_all,rfl⟩
theorem Zy{pa pb:ByteArray}{l:List En}{act:Int}(h:jR pa pb l act=0):yH none 0 l=0∧l.length≤60:=by
 unfold jR at h;split at h
 ·cases h
 split at h
 ·cases h
 split at h
 ·rename_i h3;exact absurd h h3
 ·rename_i h2 h3;exact⟨Classical.not_not.1 h3,DL⟩
def vz(l:List En)(rad:Int)(first done:Bool)(d:Dw):List Tk→Dw×Int×Int
 | []=>(d,0,0)
 |x::r=>jU l rad first done d x r
theorem YX{l:List En}{rad:Int}{first done:Bool}{d:Dw}{x:Tk}{r:List Tk}(h:x.k=2):vz l rad first done d (x::r)=vz l rad false false (vq (kA l first done d x) x.cx x.cy x.r x.f x.s x.bx x.b_y x.n) r:=by
 cases r with
 |nil=>show jU l rad first done d x []=_;unfold jU;rw[if_pos h];rfl
 |cons y r=>show jU l rad first done d x (y::r)=_;rw[jU];rw[if_pos h];rfl
theorem YY{l:List En}{rad:Int}{first done:Bool}{d:Dw}{x:Tk}{r:List Tk}(h:x.k=3)(he:(gM rad (kA l first done d x) (vU l x) x).1≠0):vz l rad first done d (x::r)=(d,x.n,(gM rad (kA l first done d x) (vU l x) x).1):=by
 have h2:x.k≠2:=DL
 cases r with
 |nil=>show jU l rad first done d x []=_;unfold jU;rw[if_neg h2,if_pos h,if_pos he]
 |cons y r=>show jU l rad first done d x (y::r)=_;rw[jU];rw[if_neg h2,if_pos h,if_pos he]
theorem YZ{l:List En}{rad:Int}{first done:Bool}{d:Dw}{x:Tk}{r:List Tk}(h:x.k=3)(he:(gM rad (kA l first done d x) (vU l x) x).1=0):vz l rad first done d (x::r)=vz l rad false false (gM rad (kA l first done d x) (vU l x) x).2 r:=by
 have h2:x.k≠2:=DL
 cases r with
 |nil=>show jU l rad first done d x []=_;unfold jU;rw[if_neg h2,if_pos h,if_neg (by rw[he];simp)];rfl
 |cons y r=>show jU l rad first done d x (y::r)=_;rw[jU];rw[if_neg h2,if_pos h,if_neg (by rw[he];simp)];rfl
theorem Qv{l:List En}{rad:Int}{first done:Bool}{d:Dw}{x:Tk}(h2:x.k≠2)(h3:x.k≠3):vz l rad first done d [x]=vz l rad false false (jf (kA l first done d x) x.bx x.b_y x.n) []:=by
 show jU l rad first done d x []=_
 unfold jU;rw[if_neg h2,if_neg h3];rfl
theorem bP{l:List En}{rad:Int}{first done:Bool}{d:Dw}{x y:Tk}{r:List Tk}(h2:x.k≠2)(h3:x.k≠3)(hn:y.g=true∨QU rad (kA l first done d x) (vU l x) (vU l y) x y=none):vz l rad first done d (x::y::r)=vz l rad false false (jf (kA l first done d x) x.bx x.b_y x.n) (y::r):=by
 show jU l rad first done d x (y::r)=_
 rw[jU];rw[if_neg h2,if_neg h3]
 have:(if y.g=true then none else QU rad (kA l first done d x) (vU l x) (vU l y) x y)=none:=by
  rcases hn with h|h
  ·rw[if_pos h]
  ·split
   ·rfl
   ·exact h
 rw[this];rfl
theorem YB{l:List En}{rad:Int}{first done:Bool}{d d':Dw}{x y y':Tk}{r:List Tk}(h2:x.k≠2)(h3:x.k≠3)(hg:y.g=false)(hn:QU rad (kA l first done d x) (vU l x) (vU l y) x y=some (d',y')):vz l rad first done d (x::y::r)=vz l rad false true d' (y'::r):=by
 show jU l rad first done d x (y::r)=_
 rw[jU];rw[if_neg h2,if_neg h3,if_neg (by rw[hg];simp),hn];rfl
def uG(l:List En)(first:Bool)(d:Dw)(x:Tk):Dw:=if x.g=true∨(first=true∧(vU l x).ty=1)then{d with px:=x.ax,py:=x.ay,gp:=x.g&& !d.els.isEmpty}else d
theorem uZ(l:List En)(first done:Bool)(d:Dw)(x:Tk):kA l first done d x=if done=true then uG l first d x else jf (uG l first d x) x.ax x.ay x.n:=rfl
theorem nD{v b:Int}(h:(uD v b).2=0):1≤(uD v b).1∧(uD v b).1≤8000000:=by
 unfold uD at h⊢;split at h
 ·rename_i h1;rw[if_pos h1];split at h
  ·rename_i h2;rw[if_pos h2];dsimp only;refine⟨?_,h2.2⟩;have hz:=h2.1;generalize hS:jO (b*3600)=s at*;have hC:=QA (h:=b*3600) DL DL;have hs0:0≤s:=by rw[←hS];exact(Gs DL DL).1
   have hvv:1≤v*v:=Int.mul_le_mul h1.1 h1.1 DQ DL;have hn:1≤v*v*87431*yF (b*3600):=Int.mul_le_mul (show(1:Int)≤v*v*87431 by omega) (show(1:Int)≤yF (b*3600) by omega) DQ DL;unfold qR at hz⊢;generalize v*v*87431*yF (b*3600)=N at*;by_cases hc:1000000*s=0
   ·rw[if_pos hc]at hz;cases hz
   ·rw[if_neg hc]at hz⊢;split at hz
    ·rename_i h3;rw[if_pos h3];dsimp only;have hd:0<1000000*s:=DL;have hsp:=(JG N (1000000*s) hd).2;refine Classical.byContradiction fun hn2=> ?_
     have:=Int.mul_le_mul_of_nonneg_right (show vW 1 N (1000000*s)≤0 by omega) (show 0≤1000000*s by omega);omega
    ·cases hz
  ·cases h
 ·cases h
def Nv(x:En)(p:Tk×Int):Prop:=p.2=0→p.1.k=3→14≤x.ty
theorem yV{x:En}{q:Prop} [Decidable q]{a b:Tk×Int}(ha:Nv x a)(hb:¬q→Nv x b):Nv x (if q then a else b):=by
 split
 ·exact ha
 ·rename_i h;exact hb h
theorem kC{x:En}{p:Tk×Int}(h:p.2=0→p.1.k≠3):Nv x p:=fun h0 h3=>absurd h3 (h h0)
theorem wB(a b d e k:Int):(zf a b d e k).k=1:=by unfold zf;split<;>rfl
theorem BX(a b d e:Int):(kf a b d e).1.k≠3:=by
 by_cases h:(zi a b d e).2.2=0
 ·unfold kf;rw[if_pos h];show(1:Int)≠3;decide
 ·unfold kf;rw[if_neg h];show(0:Int)≠3;decide
theorem vV{q:Prop} [Decidable q]{a b:Tk×Int}(ha:a.1.k≠3)(hb:b.1.k≠3):(if q then a else b).1.k≠3:=by split<;>assumption
theorem yd(e:Int):((Tk.zero,e):Tk×Int).1.k≠3:=by show(0:Int)≠3;decide
theorem PE(a b d e k g:Int):((zf a b d e k,g):Tk×Int).1.k≠3:=by show(zf a b d e k).k≠3;rw[wB];decide
theorem MG(a b d e k g h:Int):((pK 1 a b d e k g,h):Tk×Int).1.k≠3:=by show(1:Int)≠3;decide
theorem Ny(fx fy c:Int)(x:En):(vp fx fy c x).1.k≠3:=by
 unfold vp;exact vV (yd _) (vV (yd _) (vV (yd _) (vV (PE _ _ _ _ _ _) (vV (yd _) (MG _ _ _ _ _ _ _)))))
theorem Nz(fx fy:Int)(x:En):(jZ fx fy x).1.k≠3:=by
 unfold jZ;refine vV (yd _) ?_;split
 ·exact vV (yd _) (vV (yd _) (vV (yd _) (by show(2:Int)≠3;decide)))
 ·exact yd _
theorem PF(a b c:Int):(gG a b c).1.k≠3:=by
 unfold gG;exact vV (by show(4:Int)≠3;decide) (BX _ _ _ _)
theorem MH(fx fy:Int)(x:En):(yt fx fy x).1.k≠3:=by
 unfold yt;exact vV (yd _) (vV (yd _) (vV (yd _) (vV (BX _ _ _ _) (vV (yd _) (BX _ _ _ _)))))
theorem MI(fx fy:Int)(x:En):(vR fx fy x).1.k≠3:=by
 unfold vR;exact vV (yd _) (vV (yd _) (vV (yd _) (vV (yd _) (MG _ _ _ _ _ _ _))))
theorem MJ(fx fy:Int)(x y:En):(yD fx fy x y).1.k≠3:=by
 unfold yD;exact vV (yd _) (vV (yd _) (vV (yd _) (vV (yd _) (vV (yd _) (MG _ _ _ _ _ _ _)))))
theorem nE(fx fy alt gr:Int)(x:En):(yS fx fy alt x gr).1.k≠3:=by
 unfold yS;exact vV (yd _) (BX _ _ _ _)
theorem lf{fx fy c alt gr:Int}{x y:En}(ht:1≤x.ty∧x.ty≤17):Nv x (yT fx fy c alt x y gr):=by
 unfold yT;refine yV (kC fun _=>PE _ _ _ _ _ 0) fun h1=>yV (kC fun _=>PE _ _ _ _ _ 0) fun h2=>yV (kC fun _=>Ny _ _ _ _) fun h3=>yV (kC fun _=>Nz _ _ _) fun h4=>yV (kC fun _=>nE _ _ _ _ _) fun h5=>yV (kC fun _=>nE _ _ _ _ _) fun h6=>yV (kC fun _=>BX _ _ _ _) fun h7=>yV (kC fun _=>PF _ _ _) fun h8=>yV (kC fun _=>MH _ _ _) fun h9=>yV (kC fun _=>MI _ _ _) fun h10=>yV (kC fun _=>MJ _ _ _ _) fun h11=>fun _ _=>by omega
theorem dQ{pv:Option En}{fx fy c alt spd bank oalt gr:Int}{x y:En}(ht:zU x=0):Nv x (zx pv fx fy c alt x y spd bank oalt gr):=by
 unfold zx;refine yV (kC fun _=>by show(1:Int)≠3;decide) fun _=> ?_
 unfold qp;exact yV (kC fun _=>yd _) fun _=>yV (kC fun _=>yd _) fun _=>yV (kC fun _=>yd _) fun _=>yV (kC fun _=>yd _) fun _=>yV (kC fun _=>yd _) fun _=>lf (UK ht)
theorem xm{spd bank oalt gr:Int}:∀(l:List En) (pv:Option En) (i:Nat) (fx fy c alt:Int),(∀x∈l,x.gap=false→zU x=0)→∀(t:Tk),t∈(zS spd bank oalt gr pv i fx fy c alt l).1→∃(j:Nat) (x:En),t.n=((i+j:Nat):Int)∧l[j]? =some x∧zU x=0∧(t.k=3→14≤x.ty)
 | [],pv,i,fx,fy,c,alt,hl,t,h=>by cases h
 |x::r,pv,i,fx,fy,c,alt,hl,t,h=>by
  have hr:∀y∈r,y.gap=false→zU y=0:=fun y hy=>hl y (.tail _ hy)
  have up:(∃(j:Nat) (z:En),t.n=((i+1+j:Nat):Int)∧r[j]? =some z∧zU z=0∧(t.k=3→14≤z.ty))→∃(j:Nat) (z:En),t.n=((i+j:Nat):Int)∧(x::r)[j]? =some z∧zU z=0∧(t.k=3→14≤z.ty):=by
   rintro⟨j,z,h1,h2,h3⟩;exact⟨j+1,z,by rw[h1];congr 1;omega,by simpa using h2,h3⟩
  rcases hg:x.gap with _|_
  ·by_cases he:(zx pv fx fy c alt x (yz r) spd bank oalt gr).2=0
   ·obtain⟨T,hT⟩:∃T,zx pv fx fy c alt x (yz r) spd bank oalt gr=(T,0):=⟨_,Prod.ext rfl he⟩;have hs:=dQ (pv:=pv) (fx:=fx) (fy:=fy) (c:=c) (alt:=alt) (y:=yz r) (spd:=spd) (bank:=bank) (oalt:=oalt) (gr:=gr) (hl x (.head _) hg) he;rw[hT]at hs;rw[yZ hg hT]at h;unfold vZ at h;split at h
    ·cases h
    ·rcases List.mem_append.1 h with h|h
     ·rw[List.mem_singleton.1 h];exact⟨0,x,rfl,rfl,hl x (.head _) hg,hs⟩
     ·exact up (xm r _ _ _ _ _ _ hr t h)
   ·obtain⟨T,e,hT⟩:∃T e,zx pv fx fy c alt x (yz r) spd bank oalt gr=(T,e):=⟨_,_,rfl⟩;rw[hT]at he;rw[ul hg hT he]at h;cases h
  ·rw[uk hg]at h;exact up (xm r _ _ _ _ _ _ hr t h)
structure iP(l:List En)(t:Tk):Prop where
 b:MF t
 leg:∃(j:Nat) (x:En),t.n=(j:Int)∧l[j]? =some x∧zU x=0∧(t.k=3→14≤x.ty)
theorem NA{e:Int}{a b:List Tk×Int×Int}(h:(if e≠0 then a else b).2.2=0)(ha:e≠0→a.2.2≠0:=by intro h;exact h):e=0∧b.2.2=0:=by
 split at h
 ·rename_i h1;exact absurd h (ha h1)
 ·rename_i h1;exact⟨Classical.not_not.1 h1,h⟩
theorem Zz{pa pb:ByteArray}{l:List En}{act fx fy c spd bank oalt gr:Int}{T:List Tk×Int×Int}(hT:zr pa pb l act fx fy c spd bank oalt gr=T)(h:T.2.2=0):∀t∈T.1,iP l t:=by
 subst hT;obtain⟨hp,hv,hG⟩:=bV h
 have hc:QV c:=by
  unfold zr at h;obtain⟨_,h⟩:=NA h;obtain⟨_,h⟩:=NA h;split at h
  ·cases h
  split at h
  ·cases h
  ·rename_i h1;exact⟨DL,DL⟩
 have hleg:∀x∈l.drop (zM act),x.gap=false→zU x=0:=fun x hx hg=>dK (YT l none 0 (Zy hp).1 x (List.mem_of_mem_drop hx) hg)
 intro t ht;rw[hG]at ht;obtain⟨j,x,e1,e2,e3,e4⟩:=xm _ _ _ _ _ _ _ hleg t ht;refine⟨⟨xV _ _ _ _ _ _ _ hc (fun x hx hg=>YV (hleg x hx hg)) t ht,fun hk=>(xj _ _ _ _ _ _ _ t ht hk).2.2⟩,zM act+j,x,e1,by rw[List.getElem?_drop]at e2;exact e2,e3,e4⟩
theorem dR{l:List El}{k:Nat}{x:El}(hx:l[k]? =some x):kX (l.take (k+1))=kX (l.take k)+x.L:=by
 induction l generalizing k with
 |nil=>simp at hx
 |cons y l ih=>
  cases k with
  |zero=>
   simp at hx;subst hx;simp[kX]
  |succ k=>
   simp at hx;rw[List.take_succ_cons,List.take_succ_cons,uq,uq,ih hx];omega
theorem dS{ts:List Tk}{r:List Tk×Int×Int}{n:Nat}(h:r.1.length≤n):(vZ ts r).1.length≤ts.length+n:=by
 unfold vZ;split
 ·exact Nat.zero_le _
 ·rw[List.length_append];omega
theorem gN{spd bank oalt gr:Int}:∀(l:List En) (pv:Option En) (i:Nat) (fx fy c alt:Int),(zS spd bank oalt gr pv i fx fy c alt l).1.length≤l.length
 | [],pv,i,fx,fy,c,alt=>Nat.le_refl _
 |x::r,pv,i,fx,fy,c,alt=>by
  rcases hg:x.gap with _|_
  ·by_cases he:(zx pv fx fy c alt x (yz r) spd bank oalt gr).2=0
   ·obtain⟨T,hT⟩:∃T,zx pv fx fy c alt x (yz r) spd bank oalt gr=(T,0):=⟨_,Prod.ext rfl he⟩;rw[yZ hg hT];have:=dS (ts:=[{T with n:=(i:Int)}]) (gN r (some x) (i+1) T.bx T.b_y T.co (kK x alt) (spd:=spd) (bank:=bank) (oalt:=oalt) (gr:=gr));rw[List.length_cons];simp only[List.length_cons,List.length_nil]at this;omega
   ·obtain⟨T,e,hT⟩:∃T e,zx pv fx fy c alt x (yz r) spd bank oalt gr=(T,e):=⟨_,_,rfl⟩;rw[hT]at he;rw[ul hg hT he];exact Nat.zero_le _
  ·rw[uk hg,List.length_cons];exact Nat.le_trans (gN r _ _ _ _ _ _) DL
theorem Va{pa pb:ByteArray}{l:List En}{act fx fy c spd bank oalt gr:Int}{T:List Tk×Int×Int}(hT:zr pa pb l act fx fy c spd bank oalt gr=T):T.1.length≤60:=by
 subst hT;by_cases h:(zr pa pb l act fx fy c spd bank oalt gr).2.2=0
 ·obtain⟨hp,_,hG⟩:=bV h;rw[hG];have:=gN (spd:=spd) (bank:=bank) (oalt:=oalt) (gr:=gr) (l.drop (zM act)) none (zM act) fx fy c oalt;have:=(Zy hp).2;rw[List.length_drop]at*;omega
 ·unfold zr at h⊢;split
  ·exact Nat.zero_le _
  split
  ·exact Nat.zero_le _
  split
  ·exact Nat.zero_le _
  split
  ·exact Nat.zero_le _
  ·rename_i h1 h2 h3 h4;rw[if_neg h1,if_neg h2,if_neg h3,if_neg h4]at h;have:=gN (spd:=spd) (bank:=bank) (oalt:=oalt) (gr:=gr) (l.drop (zM act)) none (zM act) fx fy c oalt;have:=(Zy (Classical.not_not.1 h1)).2;rw[List.length_drop]at*;omega
def UM(d:Dw):Prop:=d.els=[]→d.gp=false
theorem UN(d:Dw)(x:El):UM (xO d x):=fun _=>rfl
theorem kS{d:Dw}(h:UM d)(qx qy n:Int):UM (jf d qx qy n):=by
 unfold jf;split
 ·exact h
 ·exact UN _ _
theorem ZA{d:Dw}(h:UM d)(cx cy r f s qx qy n:Int):UM (vq d cx cy r f s qx qy n):=by
 unfold vq;split
 ·exact UN _ _
 ·exact kS h _ _ _
theorem UO(n:Int):∀(l:List El) (d:Dw),UM d→UM (kR n d l)
 | [],d,h=>h
 |x::r,d,h=>by
  unfold kR;refine UO n r _ ?_;split
  ·exact UN _ _
  ·exact h
theorem ZB{l:List En}{first:Bool}{d:Dw}{x:Tk}(h:UM d):UM (uG l first d x):=by
 unfold uG;split
 ·intro hn
  show(x.g&& !d.els.isEmpty)=false
  rw[show d.els=[]from hn];simp
 ·exact h
theorem nF{l:List En}{first done:Bool}{d:Dw}{x:Tk}(h:UM d):UM (kA l first done d x):=by
 rw[uZ];split
 ·exact ZB h
 ·exact kS (ZB h) _ _ _
theorem fM{rad:Int}{d:Dw}{lx ly:En}{x y:Tk}{r:Dw×Tk}(h:UM d)(hd:QU rad d lx ly x y=some r):UM r.1:=by
 unfold QU at hd;split at hd
 ·cases hd
 split at hd
 ·split at hd
  ·unfold Yw at hd;dsimp only at hd;split at hd
   ·cases hd
   split at hd
   ·cases hd
   split at hd
   ·cases hd
   split at hd
   ·cases hd
   split at hd
   ·injection hd with hd;subst hd;exact ZA (kS h _ _ _) _ _ _ _ _ _ _ _
   ·cases hd
  ·cases hd
 split at hd
 ·cases hd
 ·obtain⟨d',h1,h2⟩:=Option.map_eq_some_iff.1 hd;subst h2;unfold nn at h1;split at h1
  ·cases h1
  split at h1
  ·cases h1
  unfold ut at h1;split at h1
  ·split at h1
   ·cases h1
   ·injection h1 with h1;subst h1;exact ZA (ZA (kS h _ _ _) _ _ _ _ _ _ _ _) _ _ _ _ _ _ _ _
  ·cases h1
theorem fN{rad:Int}{d:Dw}{lx:En}{x:Tk}(h:UM d):UM (gM rad d lx x).2:=by
 unfold gM;split
 ·exact UO _ _ _ h
 ·split
  ·exact h
  ·exact UO _ _ _ h
theorem nG{l:List En}{first:Bool}{d:Dw}{x:Tk}(h:(x.g||(first&&decide ((vU l x).ty=1)))=false):uG l first d x=d:=by
 unfold uG;rw[if_neg];rintro(h1|⟨h1,h2⟩)
 ·rw[h1]at h;cases h
 ·rw[h1,decide_eq_true h2]at h;simp at h
theorem BZ{l:List En}{first:Bool}{d:Dw}{x:Tk}(h:(x.g||(first&&decide ((vU l x).ty=1)))=true):uG l first d x=⟨d.els,x.ax,x.ay,x.g&& !d.els.isEmpty⟩:=by
 unfold uG;rw[if_pos];rcases hg:x.g with _|_
 ·rw[hg]at h;simp at h;exact .inr h
 ·exact .inl rfl
theorem nH{l:List En}{x:Tk}{j:Nat}{e:En}(hn:x.n=(j:Int))(he:l[j]? =some e):vU l x=e:=by
 unfold vU;rw[hn,Int.toNat_natCast,he];rfl
theorem fO{l:List En}{rad:Int}{d:Dw}{lx ly:En}{x y:Tk}{r:Dw×Tk}(hy:iP l y)(hd:QU rad d lx ly x y=some r):iP l r.2:=by
 have hk:=WQ hd;have hn:r.2.n=y.n:=(PD (P:=fun _=>True) (d:=d) (fun _ _=>trivial) trivial trivial hd).2;obtain⟨j,e,e1,e2,e3,e4⟩:=hy.leg;exact⟨Nx hy.b hd,j,e,by rw[hn];exact e1,e2,e3,fun h=>by rw[hk]at h;cases h⟩
def Ga(x:El):Prop:=0≤x.L∧x.L≤60000000
def LW(d:Dw):Prop:=∀x∈d.els,Ga x
theorem wC{d:Dw}{x:El}(h:LW d)(hx:Ga x):LW (xO d x):=fun y hy=>by
 rcases List.mem_append.1 hy with hy|hy
 ·exact h y hy
 ·rw[List.mem_singleton.1 hy];exact hx
theorem UQ(ax ay bx b_y:Int):0≤qY ax ay bx b_y∧qY ax ay bx b_y≤60000000:=by
 have:=uy ax ay bx b_y;omega
theorem Qw{d:Dw}(h:LW d)(qx qy n:Int):LW (jf d qx qy n):=by
 unfold jf;split
 ·exact h
 ·exact wC h (UQ _ _ _ _)
theorem UR{d:Dw}(h:LW d)(cx cy r f s qx qy n:Int):LW (vq d cx cy r f s qx qy n):=by
 unfold vq;split
 ·exact wC h (uP _ _ _ _ _)
 ·exact Qw h _ _ _
theorem wD(n:Int):∀(l:List El) (d:Dw),LW d→(∀x∈l,Ga x)→LW (kR n d l)
 | [],d,h,_=>h
 |x::r,d,h,hl=>by
  unfold kR;refine wD n r _ ?_ (fun y hy=>hl y (.tail _ hy));split
  ·exact wC h (hl x (.head _))
  ·exact h
theorem PG{l:List En}{first done:Bool}{d:Dw}{x:Tk}(h:LW d):LW (kA l first done d x):=by
 have key:LW (uG l first d x):=by
  unfold uG;split<;>exact h
 rw[uZ];split
 ·exact key
 ·exact Qw key _ _ _
theorem Ko(ax ay bx b_y:Int):Ga (vF ax ay bx b_y):=UQ _ _ _ _
theorem fP(ax ay bx b_y cx cy r f s:Int):Ga (xd ax ay bx b_y cx cy r f s):=uP _ _ _ _ _
theorem WR(fx fy inb tn leg rad:Int):∀x∈tP fx fy inb tn leg rad,Ga x:=by
 intro x hx;unfold tP at hx;simp only[List.mem_cons,List.not_mem_nil,or_false]at hx;rcases hx with rfl|rfl|rfl|rfl
 ·exact fP ..
 ·exact Ko ..
 ·exact fP ..
 ·exact Ko ..
theorem WS(w fx fy inb tn leg rad:Int):∀x∈uJ w fx fy inb tn leg rad,Ga x:=by
 intro x hx;unfold uJ at hx;dsimp only at hx;split at hx
 ·simp only[List.mem_cons,List.not_mem_nil,or_false]at hx;rcases hx with rfl|rfl|rfl
  ·exact Ko ..
  ·exact fP ..
  ·exact Ko ..
 ·split at hx
  ·simp only[List.mem_cons,List.not_mem_nil,or_false]at hx;rcases hx with rfl|rfl|rfl
   ·exact Ko ..
   ·exact fP ..
   ·exact Ko ..
  ·cases hx
theorem WT(fx fy crs tn dst rad:Int):∀x∈(vJ fx fy crs tn dst rad).2,Ga x:=by
 intro x hx;unfold vJ at hx;split at hx
 ·cases hx
 split at hx
 ·cases hx
 dsimp only at hx;split at hx
 ·simp only[List.mem_cons,List.not_mem_nil,or_false]at hx;rcases hx with rfl|rfl|rfl|rfl|rfl
  ·exact Ko ..
  ·exact Ko ..
  ·exact fP ..
  ·exact Ko ..
  ·exact Ko ..
 ·cases hx
theorem NC{rad:Int}{d:Dw}{lx:En}{x:Tk}(h:LW d):LW (gM rad d lx x).2:=by
 unfold gM;split
 ·exact wD _ _ _ h (WT _ _ _ _ _ _)
 ·split
  ·exact h
  ·exact wD _ _ _ h (fun y hy=>(List.mem_append.1 hy).elim (WS _ _ _ _ _ _ _ y) (WR _ _ _ _ _ _ y))
theorem ND{rad:Int}{d:Dw}{lx ly:En}{x y:Tk}{r:Dw×Tk}(h:LW d)(hd:QU rad d lx ly x y=some r):LW r.1:=by
 unfold QU at hd;split at hd
 ·cases hd
 split at hd
 ·split at hd
  ·unfold Yw at hd;dsimp only at hd;split at hd
   ·cases hd
   split at hd
   ·cases hd
   split at hd
   ·cases hd
   split at hd
   ·cases hd
   split at hd
   ·injection hd with hd;subst hd;exact UR (Qw h _ _ _) _ _ _ _ _ _ _ _
   ·cases hd
  ·cases hd
 split at hd
 ·cases hd
 ·obtain⟨d',h1,h2⟩:=Option.map_eq_some_iff.1 hd;subst h2;unfold nn at h1;split at h1
  ·cases h1
  split at h1
  ·cases h1
  unfold ut at h1;split at h1
  ·split at h1
   ·cases h1
   ·injection h1 with h1;subst h1;exact UR (UR (Qw h _ _ _) _ _ _ _ _ _ _ _) _ _ _ _ _ _ _ _
  ·cases h1
theorem ZC{l:List En}{rad:Int}:∀(r:List Tk) (first done:Bool) (d:Dw),LW d→LW (vz l rad first done d r).1
 | [],first,done,d,h=>h
 |x::r,first,done,d,h=>by
  have hp:=PG (l:=l) (first:=first) (done:=done) (x:=x) h;by_cases h2:x.k=2
  ·rw[YX h2];exact ZC r _ _ _ (UR hp _ _ _ _ _ _ _ _)
  by_cases h3:x.k=3
  ·by_cases hb:(gM rad (kA l first done d x) (vU l x) x).1=0
   ·rw[YZ h3 hb];exact ZC r _ _ _ (NC hp)
   ·rw[YY h3 hb];exact h
  cases r with
  |nil=>
   rw[Qv h2 h3];exact Qw hp _ _ _
  |cons y r=>
   by_cases hn:y.g=true∨QU rad (kA l first done d x) (vU l x) (vU l y) x y=none
   ·rw[bP h2 h3 hn];exact ZC (y::r) _ _ _ (Qw hp _ _ _)
   ·have hg:y.g=false:=by
     cases hg:y.g with
     |false=>rfl
     |true=>exact absurd (.inl hg) hn
    obtain⟨⟨d',y'⟩,hq⟩:∃q,QU rad (kA l first done d x) (vU l x) (vU l y) x y=some q:=Option.ne_none_iff_exists'.1 (fun e=>hn (.inr e));rw[YB h2 h3 hg hq];exact ZC (y'::r) _ _ _ (ND hp hq)
termination_by r=>r.length
theorem UT:∀{l:List El},(∀x∈l,Ga x)→0≤kX l∧kX l≤60000000*l.length
 | [],h=>by simp[kX]
 |x::l,h=>by
  have a:=h x List.mem_cons_self;have b:=UT (l:=l) (fun y hy=>h y (List.mem_cons_of_mem _ hy));unfold Ga at a;rw[uq,List.length_cons];omega
theorem dU{l:List En}{fx fy:Int}{R:Int×Int}{T:List Tk×Int×Int}:(vh l fx fy R T).1.length≤500:=by
 unfold vh;split
 ·exact Nat.zero_le _
 split
 ·exact Nat.zero_le _
 split
 ·exact Nat.zero_le _
 split
 ·exact Nat.zero_le _
 split
 ·exact Nat.zero_le _
 ·rename_i h;dsimp only;generalize(jU l R.1 true false ⟨[],fx,fy,false⟩ _ _).1.els.length=n at*;omega
end Go.Proofs.YtcgpbnlhnafhjaaGreatDoor
