/-
  The elements that a drawer draws are sound by themselves (points, lengths), given valid points. No program.
-/
import Derived.Test.YtiegohjobhehcaaGreatDoorMBuildP
namespace Go.Proofs.YtiegohjobhehcaaGreatDoor
set_option linter.unusedVariables false
structure Cy(x:El):Prop where
 a:qw x.ax x.ay=true
 b:qw x.bx x.b_y=true
 pos:1≤x.L
 line:x.c=false→x.L=zk x.ax x.ay x.bx x.b_y∧x.cx=0∧x.cy=0∧x.r=0∧x.f=0∧x.s=0
 arc:x.c=true→xz x.cx x.cy x.r x.f x.s=true∧x.L=zq x.cx x.cy x.r x.f x.s
structure tJ(d:Dw):Prop where
 pen:qw d.px d.py=true
 els:∀x∈d.els,Cy x
theorem UH{d:Dw}{x:El}(h:tJ d)(hx:Cy x):tJ (ZO d x):=
 ⟨hx.b,fun y hy=>by
  change y∈d.els++[{x with g:=d.gp}]at hy;rcases List.mem_append.1 hy with hy|hy
  ·exact h.els y hy
  ·rw[List.mem_singleton.1 hy]
   exact⟨hx.a,hx.b,hx.pos,hx.line,hx.arc⟩⟩
theorem SH{ax ay bx b_y:Int}(h1:qw ax ay=true)(h2:qw bx b_y=true)(hne:¬(ax=bx∧ay=b_y)):1≤zk ax ay bx b_y:=by
 apply Classical.byContradiction;intro h;have:=cU h1 h2 qg;exact hne ⟨this.1.symm,this.2.symm⟩
theorem tY{d:Dw}(h:tJ d){qx qy:Int}(n:Int)(hq:qw qx qy=true):tJ (yX d qx qy n):=by
 unfold yX;split
 ·exact h
 ·rename_i hne;exact UH h ⟨h.pen,hq,SH h.pen hq hne,fun _=>⟨rfl,rfl,rfl,rfl,rfl,rfl⟩,fun e=>by cases e⟩
theorem DM{cx cy r f s:Int}(h:1≤zq cx cy r f s):xz cx cy r f s=true:=by
 unfold zq at h;split at h
 ·assumption
 ·omega
theorem Jm{d:Dw}(h:tJ d){cx cy r f s qx qy:Int}(n:Int)(hq:qw qx qy=true):tJ (uV d cx cy r f s qx qy n):=by
 unfold uV;split
 ·rename_i hl;exact UH h ⟨h.pen,hq,hl,(fun e=>by cases e),fun _=>⟨DM hl,rfl⟩⟩
 ·exact tY h n hq
def KO(x:El):Prop:=1≤x.L→Cy x
theorem YY(n:Int):∀(l:List El) (d:Dw),tJ d→(∀x∈l,KO x)→tJ (bT n d l)
 | [],d,h,_=>h
 |x::r,d,h,hl=>by
  unfold bT;split
  ·rename_i hp;have hx:=hl x (.head _) hp;exact YY n r _ (UH h ⟨hx.a,hx.b,hx.pos,hx.line,hx.arc⟩) (fun y hy=>hl y (.tail _ hy))
  ·exact YY n r _ h (fun y hy=>hl y (.tail _ hy))
theorem tV{ax ay bx b_y:Int}(h1:qw ax ay=true)(h2:qw bx b_y=true):KO (tK ax ay bx b_y):=fun hp=>⟨h1,h2,hp,fun _=>⟨rfl,rfl,rfl,rfl,rfl,rfl⟩,fun e=>by cases e⟩
theorem Vw{ax ay bx b_y cx cy rad f s:Int}(h1:qw ax ay=true)(h2:qw bx b_y=true):KO (KC ax ay bx b_y cx cy rad f s):=fun hp=>⟨h1,h2,hp,(fun e=>by cases e),fun _=>⟨DM hp,rfl⟩⟩
theorem PQ{fx fy inb tn leg rad:Int}(h:bS fx fy inb tn leg rad=0):∀x∈Jk fx fy inb tn leg rad,KO x:=by
 obtain⟨hf,hr,v1,v2,v3,vc,vd⟩:=aK h;intro x hx;unfold Jk at hx;simp only[List.mem_cons,List.not_mem_nil,or_false]at hx;rcases hx with rfl|rfl|rfl|rfl
 ·exact Vw hf v1
 ·exact tV v1 v2
 ·exact Vw v2 v3
 ·exact tV v3 hf
theorem PR{fx fy inb tn leg rad:Int}(w:Int)(h:bS fx fy inb tn leg rad=0):∀x∈ZN w fx fy inb tn leg rad++Jk fx fy inb tn leg rad,KO x:=by
 obtain⟨hf,hr,v1,v2,v3,vc,vd⟩:=aK h;intro x hx;rcases List.mem_append.1 hx with hx|hx
 ·unfold ZN at hx;dsimp only at hx;split at hx
  ·simp only[List.mem_cons,List.not_mem_nil,or_false]at hx;rcases hx with rfl|rfl|rfl
   ·exact tV hf v2
   ·exact Vw v2 v3
   ·exact tV v3 hf
  split at hx
  ·simp only[List.mem_cons,List.not_mem_nil,or_false]at hx;rcases hx with rfl|rfl|rfl
   ·exact tV hf v3
   ·exact Vw v3 v2
   ·exact tV v2 hf
  ·cases hx
 ·exact PQ h x hx
theorem PS{fx fy crs tn dst rad:Int}(h:(uU fx fy crs tn dst rad).1=0):∀x∈(uU fx fy crs tn dst rad).2,KO x:=by
 unfold uU at h⊢;split at h
 ·cases h
 rename_i h1;rw[if_neg h1];split at h
 ·cases h
 rename_i h2;rw[if_neg h2];dsimp only at h⊢;split at h
 ·rename_i h3;rw[if_pos h3];obtain⟨a1,a2,a3,a4,a5⟩:=h3
  have hv:qw fx fy=true:=by
   rcases hq:qw fx fy with _|_
   ·rw[hq]at h1;exact absurd rfl h1
   ·rfl
  intro x hx;simp only[List.mem_cons,List.not_mem_nil,or_false]at hx;rcases hx with rfl|rfl|rfl|rfl|rfl
  ·exact tV hv (br a1)
  ·exact tV (br a1) (br a2)
  ·exact Vw (br a2) (br a4)
  ·exact tV (br a4) (br a5)
  ·exact tV (br a5) hv
 ·cases h
def ai(t:Tk):Prop:=qw t.ax t.ay=true∧qw t.bx t.b_y=true
theorem mH{l:List En}{first done:Bool}{d:Dw}{x:Tk}(h:tJ d)(hx:ai x):tJ (ko l first done d x):=by
 have key:tJ (if x.g=true∨(first=true∧(vB l x).ty=1)then{d with px:=x.ax,py:=x.ay,gp:=x.g&& !d.els.isEmpty}else d):=by
  split
  ·exact⟨hx.1,h.els⟩
  ·exact h
 unfold ko;dsimp only;split
 ·exact key
 ·exact tY key _ hx.1
theorem ES{cx cy r f s n:Int}(h:(jJ cx cy r f s n).2.2.2=0):qw (jJ cx cy r f s n).1 (jJ cx cy r f s n).2.1=true:=by
 unfold jJ at h⊢;split at h
 ·cases h
 rename_i h1;rw[if_neg h1];split at h
 ·cases h
 rename_i h2;rw[if_neg h2];split at h
 ·rename_i h3;rw[if_pos h3];exact br h3
 ·cases h
theorem SI{ax ay bx b_y cx cy r:Int}{F:List Int}(h:bY ax ay bx b_y cx cy r=(F,0)):∃p q u f s sx sy ex ey k:Int,F=[p,q,u,f,s,sx,sy,ex,ey,k]∧qw sx sy=true∧qw ex ey=true:=by
 unfold bY at h;split at h
 ·injection h with _ h;cases h
 split at h
 ·injection h with _ h;cases h
 split at h
 ·injection h with _ h;cases h
 unfold tT at h;split at h
 ·injection h with _ h;cases h
 split at h
 ·injection h with _ h;cases h
 split at h
 ·injection h with _ h;cases h
 rename_i h1;split at h
 ·injection h with _ h;cases h
 rename_i h2;split at h
 ·injection h with _ h;cases h
 injection h with h _;exact⟨_,_,_,_,_,_,_,_,_,_,h.symm,br (Classical.not_not.1 h1),br (Classical.not_not.1 h2)⟩
theorem Cz{rad:Int}{d d':Dw}{x y:Tk}(h:tJ d)(hd:aJ rad d x y=some d'):tJ d':=by
 unfold aJ at hd;split at hd
 ·cases hd
 rename_i r _;split at hd
 ·cases hd
 rename_i h1;obtain⟨F,e,hF⟩:∃F e,bY x.ax x.ay x.bx x.b_y y.bx y.b_y r=(F,e):=⟨_,_,rfl⟩;rw[hF]at hd h1;have he:e=0:=Classical.byContradiction fun hn=>h1 (.inl hn)
 subst he;obtain⟨p,q,u,f,s,sx,sy,ex,ey,k,rfl,v1,v2⟩:=SI hF;unfold xN at hd;dsimp only at hd;split at hd
 ·cases hd
 ·rename_i h2;injection hd with hd;subst hd;exact Jm (Jm (tY h _ v1) _ (ES (Classical.not_not.1 h2))) _ v2
theorem SJ{cx cy r px py:Int}{b:Bool}(h:(QX cx cy r px py b).2.2=0):qw (QX cx cy r px py b).1 (QX cx cy r px py b).2.1=true:=by
 unfold QX at h⊢;split at h
 ·cases h
 rename_i h1;rw[if_neg h1];split at h
 ·cases h
 rename_i h2;rw[if_neg h2];split at h
 ·cases h
 rename_i h3;rw[if_neg h3];split at h
 ·cases h
 rename_i h4;rw[if_neg h4];exact br (Classical.not_not.1 h4)
theorem CD{rad:Int}{d:Dw}{x y:Tk}{r:Dw×Tk}(h:tJ d)(hx:ai x)(hy:ai y)(hd:Vv rad d x y=some r):tJ r.1∧ai r.2:=by
 unfold Vv at hd;dsimp only at hd;split at hd
 ·cases hd
 split at hd
 ·cases hd
 split at hd
 ·cases hd
 rename_i h3;have hv:=SJ (Classical.not_not.1 h3);split at hd
 ·cases hd
 split at hd
 ·injection hd with hd;subst hd;refine⟨Jm (tY h _ hx.2) _ hv,?_⟩;dsimp only;split
  ·exact⟨hv,hy.2⟩
  ·exact⟨hv,hy.2⟩
 ·cases hd
theorem CF{rad:Int}{d:Dw}{lx ly:En}{x y:Tk}{r:Dw×Tk}(h:tJ d)(hx:ai x)(hy:ai y)(hd:ZP rad d lx ly x y=some r):tJ r.1∧ai r.2:=by
 unfold ZP at hd;split at hd
 ·cases hd
 split at hd
 ·split at hd
  ·exact CD h hx hy hd
  ·cases hd
 split at hd
 ·cases hd
 ·obtain⟨d',h1,h2⟩:=Option.map_eq_some_iff.1 hd;subst h2;exact⟨Cz h h1,hy⟩
theorem aQ{rad:Int}{d:Dw}{lx:En}{x:Tk}(h:tJ d)(he:(QA rad d lx x).1=0):tJ (QA rad d lx x).2:=by
 unfold QA at he⊢;split
 ·rename_i h3;rw[if_pos h3]at he;exact YY _ _ _ h (PS he)
 ·rename_i h3;rw[if_neg h3]at he;split
  ·rename_i h4;rw[if_pos h4]at he;exact absurd he h4
  ·rename_i h4;exact YY _ _ _ h (PR _ (Classical.not_not.1 h4))
theorem tZ{l:List En}{rad:Int}:∀(r:List Tk) (first done:Bool) (d:Dw) (x:Tk),tJ d→ai x→(∀y∈r,ai y)→(jm l rad first done d x r).2.2=0→tJ (jm l rad first done d x r).1
 | [],first,done,d,x,h,hx,hr,he=>by
   have hpen:=mH (l:=l) (first:=first) (done:=done) h hx;unfold jm at he⊢;split
   ·exact Jm hpen _ hx.2
   ·rename_i h2;split
    ·rename_i h3;rw[if_neg h2,if_pos h3]at he;split
     ·rename_i h4;rw[if_pos h4]at he;exact absurd he h4
     ·rename_i h4;exact aQ hpen (Classical.not_not.1 h4)
    ·exact tY hpen _ hx.2
 |y::r,first,done,d,x,h,hx,hr,he=>by
  have hpen:=mH (l:=l) (first:=first) (done:=done) h hx;have hry:=hr y (.head _);have hrr:=fun z hz=>hr z (.tail _ hz)
  unfold jm at he⊢;split
  ·rename_i h2;rw[if_pos h2]at he;exact tZ r _ _ _ _ (Jm hpen _ hx.2) hry hrr he
  ·rename_i h2;rw[if_neg h2]at he;split
   ·rename_i h3;rw[if_pos h3]at he;split
    ·rename_i h4;rw[if_pos h4]at he;exact absurd he h4
    ·rename_i h4;rw[if_neg h4]at he;exact tZ r _ _ _ _ (aQ hpen (Classical.not_not.1 h4)) hry hrr he
   ·rename_i h3;rw[if_neg h3]at he;generalize hq:(if y.g=true then none else ZP rad (ko l first done d x) (vB l x) (vB l y) x y)=q at he⊢
    cases q with
    |none=>exact tZ r _ _ _ _ (tY hpen _ hx.2) hry hrr he
    |some q=>
     obtain⟨d',y'⟩:=q
     have hq2:ZP rad (ko l first done d x) (vB l x) (vB l y) x y=some (d',y'):=by
      split at hq
      ·cases hq
      ·exact hq
     obtain⟨v1,v2⟩:=CF hpen hx hry hq2;exact tZ r _ _ _ _ v1 v2 hrr he
theorem mI{ax ay vx vy n d:Int}(h:(bc ax ay vx vy n d).2.2=0):qw (bc ax ay vx vy n d).1 (bc ax ay vx vy n d).2.1=true:=by
 unfold bc at h⊢
 repeat' split at h
 all_goals first
  |(cases h;done)
  |(simp_all;done)
theorem CI{ax ay bx b_y px py:Int}(h:(Kc ax ay bx b_y px py).2.2=0):qw (Kc ax ay bx b_y px py).1 (Kc ax ay bx b_y px py).2.1=true:=by
 unfold Kc at h⊢;split at h
 ·cases h
 rename_i h1;rw[if_neg h1];split at h
 ·cases h
 rename_i h2;rw[if_neg h2];exact mI h
theorem aR{ax ay bx b_y cx cy dx dy:Int}(h:(YP ax ay bx b_y cx cy dx dy).2.2=0):qw (YP ax ay bx b_y cx cy dx dy).1 (YP ax ay bx b_y cx cy dx dy).2.1=true:=by
 unfold YP at h⊢;split at h
 ·cases h
 rename_i h1;rw[if_neg h1];split at h
 ·cases h
 rename_i h2;rw[if_neg h2];exact mI h
theorem PT{x:En}(h:kX x=0):qw x.ex x.ey=true∧qw x.mx x.my=true:=by
 unfold kX at h;split at h
 ·rename_i h1;exact absurd h h1
 split at h
 ·cases h
 split at h
 ·cases h
 split at h
 ·cases h
 ·rename_i h4;simpa using h4
theorem wo{pv:Option En}{x:En}{lo:Bool}{la:Int}(h:(vI pv x lo la).1=0)(hg:x.gap=false):kX x=0:=by
 unfold vI at h;rw[if_neg (by rw[hg];simp)]at h;split at h
 ·rename_i h1;exact absurd h h1
 ·rename_i h1;exact Classical.not_not.1 h1
theorem ZS:∀(l:List En) (pv:Option En) (la:Int),vY pv la l=0→∀x∈l,x.gap=false→kX x=0
 | [],pv,la,_,x,hx,_=>by cases hx
 |y::r,pv,la,h,x,hx,hg=>by
  unfold vY at h;split at h
  ·rename_i h1;exact absurd h h1
  ·rename_i h1;rcases List.mem_cons.1 hx with rfl|hx
   ·exact wo (Classical.not_not.1 h1) hg
   ·exact ZS r _ _ h x hx hg
def okV(p:Tk×Int):Prop:=p.2=0→ai p.1
theorem zo{q:Prop} [Decidable q]{a b:Tk×Int}(ha:q→okV a)(hb:¬q→okV b):okV (if q then a else b):=by
 split
 ·rename_i h;exact ha h
 ·rename_i h;exact hb h
theorem jq{t:Tk}{e:Int}(h:e≠0):okV (t,e):=fun h2=>absurd h2 h
theorem xO(ax ay c l:Int):okV (bi ax ay c l):=by
 unfold bi;refine zo (fun h _=>⟨(Kr h).1,br h⟩) (fun h=>jq h)
theorem xQ{ax ay bx b_y:Int}(c:Int)(h1:qw ax ay=true)(h2:qw bx b_y=true):ai (zF ax ay bx b_y c):=by
 unfold zF;split<;>exact⟨h1,h2⟩
theorem PU{fx fy:Int}(c alt:Int){x:En}(y:En)(gr:Int)(h1:qw fx fy=true)(h2:qw x.ex x.ey=true):okV (uT fx fy c alt x y gr):=by
 unfold uT;refine zo (fun _ _=>xQ _ h2 h2) (fun _=>zo (fun _ _=>xQ _ h1 h2) (fun _=>zo (fun _=> ?_) (fun _=>zo (fun _=> ?_) (fun _=>zo (fun _=> ?_) (fun _=>zo (fun _=> ?_) (fun _=>zo (fun _=>xO _ _ _ _) (fun _=>zo (fun _=> ?_) (fun _=>zo (fun _=> ?_) (fun _=>zo (fun _=> ?_) (fun _=>zo (fun _=> ?_) (fun _ _=>⟨h2,h2⟩)))))))))))
 ·unfold ux;exact zo (fun h=>jq h) (fun _=>zo (fun _=>jq qG) (fun _=>zo (fun h=>jq h) (fun _=>zo (fun _ _=>xQ _ h1 h2) (fun _=>zo (fun h=>jq h) (fun h _=>⟨CI (Classical.not_not.1 h),h2⟩)))))
 ·unfold vA;refine zo (fun h=>jq h) (fun _=> ?_);split
  ·exact zo (fun _=>jq qG) (fun _=>zo (fun h=>jq h) (fun _=>zo (fun h=>jq h) (fun _ _=>⟨h1,h2⟩)))
  ·rename_i hq;obtain⟨v0,v1,v2,v3,v4,e0,e,_⟩:=YR fx fy x.mx x.my x.ex x.ey (decide (x.tn=2));rw[e]at hq;exact(hq _ _ _ _ _ rfl).elim
 ·unfold kq;exact zo (fun _=>jq qG) (fun _=>xO _ _ _ _)
 ·unfold kq;exact zo (fun _=>jq qG) (fun _=>xO _ _ _ _)
 ·unfold Qt;exact zo (fun h _=>xO _ _ _ _ h) (fun _=>xO _ _ _ _)
 ·unfold vV;exact zo (fun h=>jq h) (fun _=>zo (fun h=>jq h) (fun _=>zo (fun _=>jq qG) (fun _=>zo (fun _=>xO _ _ _ _) (fun _=>zo (fun _=>jq qG) (fun _=>xO _ _ _ _)))))
 ·unfold uQ;exact zo (fun h=>jq h) (fun _=>zo (fun h=>jq h) (fun _=>zo (fun h=>jq h) (fun h=>zo (fun _=>jq qG) (fun _ _=>⟨h1,aR (Classical.not_not.1 h)⟩))))
 ·unfold kK;exact zo (fun _=>jq qG) (fun _=>zo (fun h=>jq h) (fun _=>zo (fun h=>jq h) (fun _=>zo (fun h=>jq h) (fun h=>zo (fun _=>jq qG) (fun _ _=>⟨h1,aR (Classical.not_not.1 h)⟩)))))
theorem cY{pv:Option En}(fx fy c alt:Int){x:En}(y:En)(spd bank oalt gr:Int)(h2:qw x.ex x.ey=true):okV (zy pv fx fy c alt x y spd bank oalt gr):=by
 unfold zy;refine zo (fun _ _=>⟨h2,h2⟩) (fun _=> ?_);unfold qB;refine zo (fun h=>jq h) (fun _=>zo (fun _=>jq qG) (fun _=>zo (fun h=>jq h) (fun _=>zo (fun _=>jq qG) (fun h=>zo (fun _=>jq qG) (fun _=> ?_)))))
 have hv:qw fx fy=true:=by
  rcases hq:qw fx fy with _|_
  ·rw[hq]at h;exact absurd rfl h
  ·rfl
 exact PU _ _ _ _ hv h2
theorem Yi{spd bank oalt gr:Int}:∀(l:List En) (pv:Option En) (i:Nat) (fx fy c alt:Int),(∀x∈l,x.gap=false→qw x.ex x.ey=true)→∀t∈(zU spd bank oalt gr pv i fx fy c alt l).1,ai t
 | [],pv,i,fx,fy,c,alt,_,t,h=>by cases h
 |x::r,pv,i,fx,fy,c,alt,hl,t,h=>by
  have hr:=fun z hz=>hl z (.tail _ hz)
  rcases hg:x.gap with _|_
  ·have hx:=hl x (.head _) hg;by_cases he:(zy pv fx fy c alt x (jV r) spd bank oalt gr).2=0
   ·obtain⟨T,hT⟩:∃T,zy pv fx fy c alt x (jV r) spd bank oalt gr=(T,0):=⟨_,Prod.ext rfl he⟩;rw[vN hg hT]at h;unfold kG at h;split at h
    ·cases h
    ·have hs:=cY (pv:=pv) fx fy c alt (jV r) spd bank oalt gr hx he;rw[hT]at hs;rcases List.mem_append.1 h with h|h
     ·rw[List.mem_singleton.1 h];exact hs
     ·exact Yi r _ _ _ _ _ _ hr t h
   ·obtain⟨T,e,hT⟩:∃T e,zy pv fx fy c alt x (jV r) spd bank oalt gr=(T,e):=⟨_,_,rfl⟩;rw[hT]at he;rw[vK hg hT he]at h;cases h
  ·rw[vJ hg]at h;exact Yi r _ _ _ _ _ _ hr t h
def rise:Int→List Tk→Prop
 |_,[]=>True
 |m,y::r=>m≤y.n∧rise y.n r
theorem PW(s:Int):(0≤s∧s.tdiv 2=s/2)∨(s<0∧s.tdiv 2= -((-s)/2)):=by
 by_cases h:s<0
 ·right;refine⟨h,?_⟩;have:(- -s).tdiv 2= -((-s).tdiv 2):=Int.neg_tdiv _ _;rw[Int.neg_neg]at this;rw[this,Int.tdiv_eq_ediv_of_nonneg qg]
 ·exact .inl ⟨qg,Int.tdiv_eq_ediv_of_nonneg qg⟩
theorem CJ{p:Prop} [Decidable p]{a b:Int}(h:(if p then a else b)=0)(ha:a≠0):¬p∧b=0:=by
 split at h
 ·exact absurd h ha
 ·rename_i h1;exact⟨h1,h⟩
theorem ET{e b:Int}(h:(if e≠0 then e else b)=0):e=0∧b=0:=by
 split at h
 ·rename_i h1;exact absurd h h1
 ·rename_i h1;exact⟨Classical.not_not.1 h1,h⟩
theorem Vx{x:En}(h:jW x=0):(1≤x.ty∧x.ty≤17)∧¬(if zt x.ty 2 then decide (x.tn=1)||decide (x.tn=2)else decide (x.tn=0))=false∧yT x.crs (zt x.ty 4) 0 129599999=0:=by
 unfold jW at h;obtain⟨a1,h⟩:=CJ h qG;obtain⟨_,h⟩:=ET h;obtain⟨_,h⟩:=ET h;obtain⟨a2,h⟩:=CJ h qG;obtain⟨_,h⟩:=CJ h qG;obtain⟨a3,_⟩:=ET h;exact⟨qg,a2,a3⟩
theorem BO{x:En}(h:jW x=0):0≤x.crs∧x.crs<129600000:=by
 have h2:=dU (Vx h).2.2;rcases hu:zt x.ty 4 with _|_
 ·have:=h2.2 hu;omega
 ·have:=h2.1 hu;omega
theorem PX{x:En}(h:jW x=0)(ht:zt x.ty 2=true):x.tn=1∨x.tn=2:=by
 have h1:=(Vx h).2.1;rw[if_pos ht]at h1
 have:(decide (x.tn=1)||decide (x.tn=2))=true:=by
  rcases hq:(decide (x.tn=1)||decide (x.tn=2))with _|_
  ·exact absurd hq h1
  ·rfl
 simpa using this
theorem mJ{x:En}(h:jW x=0):1≤x.ty∧x.ty≤17:=(Vx h).1
theorem PY{t:Int}(h:14≤t)(h2:t≤17):zt t 2=true:=by
 obtain rfl|rfl|rfl|rfl:t=14∨t=15∨t=16∨t=17:=qg
 all_goals decide
theorem cZ{x:En}(h:kX x=0):jW x=0:=by
 unfold kX at h;split at h
 ·rename_i h1;exact absurd h h1
 ·rename_i h1;exact Classical.not_not.1 h1
def Qo(a:Int):Prop:=0≤a∧a<129600000
theorem xR:Qo 0:=⟨qG,qG⟩
def BP(t:Tk):Prop:=Qo t.ci∧Qo t.co
def mK(p:Tk×Int):Prop:=p.2=0→BP p.1
theorem zz{q:Prop} [Decidable q]{a b:Tk×Int}(ha:mK a)(hb:mK b):mK (if q then a else b):=by split<;>assumption
theorem fc{ax ay bx b_y c d:Int}(h:Qo c):BP (av 1 ax ay bx b_y c d):=⟨h,h⟩
theorem zQ(e:Int):mK (Tk.zero,e):=fun _=>⟨xR,xR⟩
theorem Yj(ax ay bx b_y:Int):Qo (qO ax ay bx b_y).1:=by
 unfold qO;split
 ·exact xR
 split
 ·exact xR
 ·exact gI _ _
theorem QE{ax ay bx b_y c:Int}(h:Qo c):BP (zF ax ay bx b_y c):=by
 unfold zF;split
 ·exact fc h
 ·exact fc (Yj _ _ _ _)
theorem Zc{ax ay c l:Int}(h:Qo c):mK (bi ax ay c l):=by
 unfold bi;split
 ·exact fun _=>fc h
 ·exact zQ _
theorem PZ{fx fy c:Int}{x:En}(h:Qo c)(hx:Qo x.crs):mK (ux fx fy c x):=by
 unfold ux;exact zz (zQ _) (zz (zQ _) (zz (zQ _) (zz (fun _=>QE h) (zz (zQ _) (fun _=>fc hx)))))
theorem aT(cx cy r f s al:Int):Qo (jJ cx cy r f s al).2.2.1:=by
 unfold jJ;split
 ·exact xR
 split
 ·exact xR
 split
 ·exact jP _
 ·exact xR
theorem Na(fx fy:Int)(x:En):mK (vA fx fy x):=by
 unfold vA;refine zz (zQ _) ?_;split
 ·exact zz (zQ _) (zz (zQ _) (zz (zQ _) (fun _=>⟨aT _ _ _ _ _ _,aT _ _ _ _ _ _⟩)))
 ·exact zQ _
theorem KP{fx fy alt gr:Int}{x:En}(hx:Qo x.crs):mK (kq fx fy alt x gr):=by
 unfold kq;exact zz (zQ _) (Zc hx)
theorem aU{a b c:Int}(h:Qo c):mK (Qt a b c):=by
 unfold Qt;by_cases h0:(bi a b c 300000).2=0
 ·rw[if_pos h0];have:=Zc (ax:=a) (ay:=b) (l:=300000) h h0;exact fun _=>this
 ·rw[if_neg h0];exact Zc h
theorem CL{fx fy:Int}{x:En}(hx:Qo x.crs):mK (vV fx fy x):=by
 unfold vV;exact zz (zQ _) (zz (zQ _) (zz (zQ _) (zz (Zc hx) (zz (zQ _) (Zc hx)))))
theorem CP{fx fy:Int}{x:En}(hx:Qo x.crs):mK (uQ fx fy x):=by
 unfold uQ;exact zz (zQ _) (zz (zQ _) (zz (zQ _) (zz (zQ _) (fun _=>fc hx))))
theorem CQ{fx fy:Int}{x y:En}(hx:Qo x.crs):mK (kK fx fy x y):=by
 unfold kK;exact zz (zQ _) (zz (zQ _) (zz (zQ _) (zz (zQ _) (zz (zQ _) (fun _=>fc hx)))))
theorem Nb{c:Int}{x:En}(h:Qo c)(hx:Qo x.crs):BP (vE c x):=by
 refine⟨h,?_⟩
 show Qo (if x.ty=17 then norm (x.crs+64800000)else x.crs)
 split
 ·exact jP _
 ·exact hx
theorem Nc{fx fy c alt gr:Int}{x y:En}(h:Qo c)(hx:Qo x.crs):mK (uT fx fy c alt x y gr):=by
 unfold uT;exact zz (fun _=>QE h) (zz (fun _=>QE h) (zz (PZ h hx) (zz (Na _ _ _) (zz (KP hx) (zz (KP hx) (zz (Zc hx) (zz (aU hx) (zz (CL hx) (zz (CP hx) (zz (CQ hx) (fun _=>Nb h hx)))))))))))
theorem fe{pv:Option En}{fx fy c alt spd bank oalt gr:Int}{x y:En}(h:Qo c)(hx:Qo x.crs):mK (zy pv fx fy c alt x y spd bank oalt gr):=by
 unfold zy;refine zz (fun _=> ?_) ?_
 ·have:Qo (if x.ty=3 then x.crs else c):=by split<;>assumption
  exact⟨this,this⟩
 ·unfold qB;exact zz (zQ _) (zz (zQ _) (zz (zQ _) (zz (zQ _) (zz (zQ _) (Nc h hx)))))
theorem QF{spd bank oalt gr:Int}:∀(l:List En) (pv:Option En) (i:Nat) (fx fy c alt:Int),Qo c→(∀x∈l,x.gap=false→Qo x.crs)→∀t∈(zU spd bank oalt gr pv i fx fy c alt l).1,BP t
 | [],pv,i,fx,fy,c,alt,hc,hl,t,h=>by cases h
 |x::r,pv,i,fx,fy,c,alt,hc,hl,t,h=>by
  have hr:∀y∈r,y.gap=false→Qo y.crs:=fun y hy=>hl y (.tail _ hy)
  rcases hg:x.gap with _|_
  ·by_cases he:(zy pv fx fy c alt x (jV r) spd bank oalt gr).2=0
   ·obtain⟨T,hT⟩:∃T,zy pv fx fy c alt x (jV r) spd bank oalt gr=(T,0):=⟨_,Prod.ext rfl he⟩;have hs:=fe (pv:=pv) (fx:=fx) (fy:=fy) (alt:=alt) (y:=jV r) (spd:=spd) (bank:=bank) (oalt:=oalt) (gr:=gr) hc (hl x (.head _) hg) he;rw[hT]at hs;rw[vN hg hT]at h;unfold kG at h;split at h
    ·cases h
    ·rcases List.mem_append.1 h with h|h
     ·rw[List.mem_singleton.1 h];exact hs
     ·exact QF r _ _ _ _ _ _ hs.2 hr t h
   ·obtain⟨T,e,hT⟩:∃T e,zy pv fx fy c alt x (jV r) spd bank oalt gr=(T,e):=⟨_,_,rfl⟩;rw[hT]at he;rw[vK hg hT he]at h;cases h
  ·rw[vJ hg]at h;exact QF r _ _ _ _ _ _ hc hr t h
theorem Nf{rad:Int}{d:Dw}{x y:Tk}{r:Dw×Tk}(hy:BP y)(hd:Vv rad d x y=some r):BP r.2:=by
 unfold Vv at hd;dsimp only at hd;split at hd
 ·cases hd
 split at hd
 ·cases hd
 split at hd
 ·cases hd
 split at hd
 ·cases hd
 split at hd
 ·injection hd with hd;subst hd;dsimp only;split
  ·exact⟨hy.1,hy.1⟩
  ·exact⟨Yj _ _ _ _,Yj _ _ _ _⟩
 ·cases hd
theorem Ng{rad:Int}{d:Dw}{x y:Tk}{r:Dw×Tk}(hd:Vv rad d x y=some r):r.2.len≤8000000:=by
 unfold Vv at hd;dsimp only at hd;split at hd
 ·cases hd
 split at hd
 ·cases hd
 split at hd
 ·cases hd
 split at hd
 ·cases hd
 split at hd
 ·injection hd with hd;subst hd;dsimp only;split
  ·show(0:Int)≤8000000
   decide
  ·exact Int.le_trans (bD _ _ _ _).2 qG
 ·cases hd
structure EU(t:Tk):Prop where
 crs:BP t
 len:t.k=1→t.len≤8000000
theorem SK{rad:Int}{d:Dw}{lx ly:En}{x y:Tk}{r:Dw×Tk}(hy:EU y)(hd:ZP rad d lx ly x y=some r):EU r.2:=by
 unfold ZP at hd;split at hd
 ·cases hd
 split at hd
 ·split at hd
  ·exact⟨Nf hy.crs hd,fun _=>Ng hd⟩
  ·cases hd
 split at hd
 ·cases hd
 ·obtain⟨d',h1,h2⟩:=Option.map_eq_some_iff.1 hd;subst h2;exact hy
def Qw(P:Int→Prop)(d:Dw):Prop:=∀a∈d.els,P a.n
theorem UI{P:Int→Prop}{d:Dw}{x:El}(h:Qw P d)(hx:P x.n):Qw P (ZO d x):=fun y hy=>by
 rcases List.mem_append.1 hy with hy|hy
 ·exact h y hy
 ·rw[List.mem_singleton.1 hy];exact hx
theorem xb{P:Int→Prop}{d:Dw}(h:Qw P d)(qx qy:Int){n:Int}(hn:P n):Qw P (yX d qx qy n):=by
 unfold yX;split
 ·exact h
 ·exact UI h hn
theorem Jn{P:Int→Prop}{d:Dw}(h:Qw P d)(cx cy r f s qx qy:Int){n:Int}(hn:P n):Qw P (uV d cx cy r f s qx qy n):=by
 unfold uV;split
 ·exact UI h hn
 ·exact xb h _ _ hn
theorem UJ{P:Int→Prop}{n:Int}(hn:P n):∀(l:List El) (d:Dw),Qw P d→Qw P (bT n d l)
 | [],d,h=>h
 |x::r,d,h=>by
  unfold bT;refine UJ hn r _ ?_;split
  ·exact UI h hn
  ·exact h
theorem mM{P:Int→Prop}{l:List En}{first done:Bool}{d:Dw}{x:Tk}(h:Qw P d)(hx:P x.n):Qw P (ko l first done d x):=by
 have key:Qw P (if x.g=true∨(first=true∧(vB l x).ty=1)then{d with px:=x.ax,py:=x.ay,gp:=x.g&& !d.els.isEmpty}else d):=by
  split
  ·exact h
  ·exact h
 unfold ko;dsimp only;split
 ·exact key
 ·exact xb key _ _ hx
theorem aV{P:Int→Prop}{rad:Int}{d:Dw}{lx ly:En}{x y:Tk}{r:Dw×Tk}(h:Qw P d)(hx:P x.n)(hy:P y.n)(hd:ZP rad d lx ly x y=some r):Qw P r.1∧r.2.n=y.n:=by
 unfold ZP at hd;split at hd
 ·cases hd
 split at hd
 ·split at hd
  ·unfold Vv at hd;dsimp only at hd;split at hd
   ·cases hd
   split at hd
   ·cases hd
   split at hd
   ·cases hd
   split at hd
   ·cases hd
   split at hd
   ·injection hd with hd;subst hd;refine⟨Jn (xb h _ _ hx) _ _ _ _ _ _ _ hy,?_⟩;dsimp only;split<;>rfl
   ·cases hd
  ·cases hd
 split at hd
 ·cases hd
 ·obtain⟨d',h1,h2⟩:=Option.map_eq_some_iff.1 hd;subst h2;refine⟨?_,rfl⟩;unfold aJ at h1;split at h1
  ·cases h1
  split at h1
  ·cases h1
  unfold xN at h1;split at h1
  ·split at h1
   ·cases h1
   ·injection h1 with h1;subst h1;exact Jn (Jn (xb h _ _ hx) _ _ _ _ _ _ _ hx) _ _ _ _ _ _ _ hy
  ·cases h1
theorem aW{P:Int→Prop}{rad:Int}{d:Dw}{lx:En}{x:Tk}(h:Qw P d)(hx:P x.n):Qw P (QA rad d lx x).2:=by
 unfold QA;split
 ·exact UJ hx _ _ h
 ·split
  ·exact h
  ·exact UJ hx _ _ h
theorem xd{P:Int→Prop}{l:List En}{rad:Int}:∀(r:List Tk) (first done:Bool) (d:Dw) (x:Tk),Qw P d→P x.n→(∀y∈r,P y.n)→Qw P (jm l rad first done d x r).1
 | [],first,done,d,x,h,hx,hr=>by
   have hpen:=mM (l:=l) (first:=first) (done:=done) h hx;unfold jm;split
   ·exact Jn hpen _ _ _ _ _ _ _ hx
   ·split
    ·split
     ·exact h
     ·exact aW hpen hx
    ·exact xb hpen _ _ hx
 |y::r,first,done,d,x,h,hx,hr=>by
  have hpen:=mM (l:=l) (first:=first) (done:=done) h hx;have hry:=hr y (.head _);have hrr:=fun z hz=>hr z (.tail _ hz)
  unfold jm;split
  ·exact xd r _ _ _ _ (Jn hpen _ _ _ _ _ _ _ hx) hry hrr
  ·split
   ·split
    ·exact h
    ·exact xd r _ _ _ _ (aW hpen hx) hry hrr
   ·generalize hq:(if y.g=true then none else ZP rad (ko l first done d x) (vB l x) (vB l y) x y)=q
    cases q with
    |none=>exact xd r _ _ _ _ (xb hpen _ _ hx) hry hrr
    |some q=>
     obtain⟨d',y'⟩:=q
     have hq2:ZP rad (ko l first done d x) (vB l x) (vB l y) x y=some (d',y'):=by
      split at hq
      ·cases hq
      ·exact hq
     obtain⟨v1,v2⟩:=aV hpen hx hry hq2;dsimp only at v1 v2⊢;exact xd r _ _ _ _ v1 (by rw[v2];exact hry) hrr
theorem Yk{spd bank oalt gr:Int}:∀(l:List En) (pv:Option En) (i:Nat) (fx fy c alt:Int) (t:Tk),t∈(zU spd bank oalt gr pv i fx fy c alt l).1→∃(j:Nat) (x:En),t.n=((i+j:Nat):Int)∧l[j]? =some x∧x.gap=false
 | [],pv,i,fx,fy,c,alt,t,h=>by cases h
 |x::r,pv,i,fx,fy,c,alt,t,h=>by
  have up:(∃(j:Nat) (z:En),t.n=((i+1+j:Nat):Int)∧r[j]? =some z∧z.gap=false)→∃(j:Nat) (z:En),t.n=((i+j:Nat):Int)∧(x::r)[j]? =some z∧z.gap=false:=by
   rintro⟨j,z,h1,h2,h3⟩;exact⟨j+1,z,by rw[h1];congr 1;omega,by simpa using h2,h3⟩
  rcases hg:x.gap with _|_
  ·by_cases he:(zy pv fx fy c alt x (jV r) spd bank oalt gr).2=0
   ·obtain⟨T,hT⟩:∃T,zy pv fx fy c alt x (jV r) spd bank oalt gr=(T,0):=⟨_,Prod.ext rfl he⟩;rw[vN hg hT]at h;unfold kG at h;split at h
    ·cases h
    ·rcases List.mem_append.1 h with h|h
     ·rw[List.mem_singleton.1 h];exact⟨0,x,rfl,rfl,hg⟩
     ·exact up (Yk r _ _ _ _ _ _ t h)
   ·obtain⟨T,e,hT⟩:∃T e,zy pv fx fy c alt x (jV r) spd bank oalt gr=(T,e):=⟨_,_,rfl⟩;rw[hT]at he;rw[vK hg hT he]at h;cases h
  ·rw[vJ hg]at h;exact up (Yk r _ _ _ _ _ _ t h)
def aX(l:List En)(act n:Int):Prop:=∃(j:Nat) (x:En),n=(j:Int)∧zM act≤j∧l[j]? =some x∧x.gap=false
theorem xT{pa pb:ByteArray}{l:List En}{act fx fy c spd bank oalt gr:Int}(h:(zV pa pb l act fx fy c spd bank oalt gr).2.2=0):
 vw pa pb l act=0∧qw fx fy=true∧zV pa pb l act fx fy c spd bank oalt gr=zU spd bank oalt gr none (zM act) fx fy c oalt (l.drop (zM act)):=by
 unfold zV at h⊢;by_cases h1:vw pa pb l act≠0
 ·rw[if_pos h1]at h;exact absurd h h1
 rw[if_neg h1]at h⊢;by_cases h2:kJ spd bank oalt gr≠0
 ·rw[if_pos h2]at h;exact absurd h h2
 rw[if_neg h2]at h⊢;by_cases h3:qw fx fy=false
 ·rw[if_pos h3]at h;cases h
 rw[if_neg h3]at h⊢;by_cases h4:c<0∨c≥129600000
 ·rw[if_pos h4]at h;cases h
 rw[if_neg h4];exact⟨Classical.not_not.1 h1,by rcases hv:qw fx fy with _|_<;>simp_all,rfl⟩
theorem Jo{pa pb:ByteArray}{l:List En}{act:Int}(h:vw pa pb l act=0):vY none 0 l=0∧l.length≤60:=by
 unfold vw at h;split at h
 ·cases h
 split at h
 ·cases h
 split at h
 ·rename_i h3;exact absurd h h3
 ·rename_i h2 h3;exact⟨Classical.not_not.1 h3,qg⟩
theorem aY{pa pb:ByteArray}{l:List En}{act:Int}(h:vw pa pb l act=0):∀x∈l,x.gap=false→qw x.ex x.ey=true:=fun x hx hg=>(PT (ZS l none 0 (Jo h).1 x hx hg)).1
def uE(l:List En)(rad:Int)(first done:Bool)(d:Dw):List Tk→Dw×Int×Int
 | []=>(d,0,0)
 |x::r=>jm l rad first done d x r
theorem BQ{l:List En}{rad:Int}{first done:Bool}{d:Dw}{x:Tk}{r:List Tk}(h:x.k=2):uE l rad first done d (x::r)=uE l rad false false (uV (ko l first done d x) x.cx x.cy x.r x.f x.s x.bx x.b_y x.n) r:=by
 cases r with
 |nil=>show jm l rad first done d x []=_;unfold jm;rw[if_pos h];rfl
 |cons y r=>show jm l rad first done d x (y::r)=_;rw[jm];rw[if_pos h];rfl
theorem BS{l:List En}{rad:Int}{first done:Bool}{d:Dw}{x:Tk}{r:List Tk}(h:x.k=3)(he:(QA rad (ko l first done d x) (vB l x) x).1≠0):uE l rad first done d (x::r)=(d,x.n,(QA rad (ko l first done d x) (vB l x) x).1):=by
 have h2:x.k≠2:=qg
 cases r with
 |nil=>show jm l rad first done d x []=_;unfold jm;rw[if_neg h2,if_pos h,if_pos he]
 |cons y r=>show jm l rad first done d x (y::r)=_;rw[jm];rw[if_neg h2,if_pos h,if_pos he]
theorem BU{l:List En}{rad:Int}{first done:Bool}{d:Dw}{x:Tk}{r:List Tk}(h:x.k=3)(he:(QA rad (ko l first done d x) (vB l x) x).1=0):uE l rad first done d (x::r)=uE l rad false false (QA rad (ko l first done d x) (vB l x) x).2 r:=by
 have h2:x.k≠2:=qg
 cases r with
 |nil=>show jm l rad first done d x []=_;unfold jm;rw[if_neg h2,if_pos h,if_neg (by rw[he];simp)];rfl
 |cons y r=>show jm l rad first done d x (y::r)=_;rw[jm];rw[if_neg h2,if_pos h,if_neg (by rw[he];simp)];rfl
theorem KQ{l:List En}{rad:Int}{first done:Bool}{d:Dw}{x:Tk}(h2:x.k≠2)(h3:x.k≠3):uE l rad first done d [x]=uE l rad false false (yX (ko l first done d x) x.bx x.b_y x.n) []:=by
 show jm l rad first done d x []=_
 unfold jm;rw[if_neg h2,if_neg h3];rfl
theorem Yl{l:List En}{rad:Int}{first done:Bool}{d:Dw}{x y:Tk}{r:List Tk}(h2:x.k≠2)(h3:x.k≠3)(hn:y.g=true∨ZP rad (ko l first done d x) (vB l x) (vB l y) x y=none):uE l rad first done d (x::y::r)=uE l rad false false (yX (ko l first done d x) x.bx x.b_y x.n) (y::r):=by
 show jm l rad first done d x (y::r)=_
 rw[jm];rw[if_neg h2,if_neg h3]
 have:(if y.g=true then none else ZP rad (ko l first done d x) (vB l x) (vB l y) x y)=none:=by
  rcases hn with h|h
  ·rw[if_pos h]
  ·split
   ·rfl
   ·exact h
 rw[this];rfl
theorem mN{l:List En}{rad:Int}{first done:Bool}{d d':Dw}{x y y':Tk}{r:List Tk}(h2:x.k≠2)(h3:x.k≠3)(hg:y.g=false)(hn:ZP rad (ko l first done d x) (vB l x) (vB l y) x y=some (d',y')):uE l rad first done d (x::y::r)=uE l rad false true d' (y'::r):=by
 show jm l rad first done d x (y::r)=_
 rw[jm];rw[if_neg h2,if_neg h3,if_neg (by rw[hg];simp),hn];rfl
def QG(l:List En)(first:Bool)(d:Dw)(x:Tk):Dw:=if x.g=true∨(first=true∧(vB l x).ty=1)then{d with px:=x.ax,py:=x.ay,gp:=x.g&& !d.els.isEmpty}else d
theorem YZ(l:List En)(first done:Bool)(d:Dw)(x:Tk):ko l first done d x=if done=true then QG l first d x else yX (QG l first d x) x.ax x.ay x.n:=rfl
theorem Nh{v b:Int}(h:(ZF v b).2=0):1≤(ZF v b).1∧(ZF v b).1≤8000000:=by
 unfold ZF at h⊢;split at h
 ·rename_i h1;rw[if_pos h1];split at h
  ·rename_i h2;rw[if_pos h2];dsimp only;refine⟨?_,h2.2⟩;have hz:=h2.1;generalize hS:yJ (b*3600)=s at*;have hC:=Zv (h:=b*3600) qg qg;have hs0:0≤s:=by rw[←hS];exact(Tx qg qg).1
   have hvv:1≤v*v:=Int.mul_le_mul h1.1 h1.1 qG qg;have hn:1≤v*v*87431*vT (b*3600):=Int.mul_le_mul (show(1:Int)≤v*v*87431 by omega) (show(1:Int)≤vT (b*3600) by omega) qG qg;unfold qL at hz⊢;generalize v*v*87431*vT (b*3600)=N at*;by_cases hc:1000000*s=0
   ·rw[if_pos hc]at hz;cases hz
   ·rw[if_neg hc]at hz⊢;split at hz
    ·rename_i h3;rw[if_pos h3];dsimp only;have hd:0<1000000*s:=qg;have hsp:=(YA N (1000000*s) hd).2;refine Classical.byContradiction fun hn2=> ?_
     have:=Int.mul_le_mul_of_nonneg_right (show kN 1 N (1000000*s)≤0 by omega) (show 0≤1000000*s by omega);omega
    ·cases hz
  ·cases h
 ·cases h
def Sn(x:En)(p:Tk×Int):Prop:=p.2=0→p.1.k=3→14≤x.ty
theorem vg{x:En}{q:Prop} [Decidable q]{a b:Tk×Int}(ha:Sn x a)(hb:¬q→Sn x b):Sn x (if q then a else b):=by
 split
 ·exact ha
 ·rename_i h;exact hb h
theorem kA{x:En}{p:Tk×Int}(h:p.2=0→p.1.k≠3):Sn x p:=fun h0 h3=>absurd h3 (h h0)
theorem wt(a b d e k:Int):(zF a b d e k).k=1:=by unfold zF;split<;>rfl
theorem BV(a b d e:Int):(bi a b d e).1.k≠3:=by
 by_cases h:(zn a b d e).2.2=0
 ·unfold bi;rw[if_pos h];show(1:Int)≠3;decide
 ·unfold bi;rw[if_neg h];show(0:Int)≠3;decide
theorem vX{q:Prop} [Decidable q]{a b:Tk×Int}(ha:a.1.k≠3)(hb:b.1.k≠3):(if q then a else b).1.k≠3:=by split<;>assumption
theorem yj(e:Int):((Tk.zero,e):Tk×Int).1.k≠3:=by show(0:Int)≠3;decide
theorem CT(a b d e k g:Int):((zF a b d e k,g):Tk×Int).1.k≠3:=by show(zF a b d e k).k≠3;rw[wt];decide
theorem EV(a b d e k g h:Int):((av 1 a b d e k g,h):Tk×Int).1.k≠3:=by show(1:Int)≠3;decide
theorem SL(fx fy c:Int)(x:En):(ux fx fy c x).1.k≠3:=by
 unfold ux;exact vX (yj _) (vX (yj _) (vX (yj _) (vX (CT _ _ _ _ _ _) (vX (yj _) (EV _ _ _ _ _ _ _)))))
theorem SM(fx fy:Int)(x:En):(vA fx fy x).1.k≠3:=by
 unfold vA;refine vX (yj _) ?_;split
 ·exact vX (yj _) (vX (yj _) (vX (yj _) (by show(2:Int)≠3;decide)))
 ·exact yj _
theorem CU(a b c:Int):(Qt a b c).1.k≠3:=by
 unfold Qt;exact vX (by show(4:Int)≠3;decide) (BV _ _ _ _)
theorem EW(fx fy:Int)(x:En):(vV fx fy x).1.k≠3:=by
 unfold vV;exact vX (yj _) (vX (yj _) (vX (yj _) (vX (BV _ _ _ _) (vX (yj _) (BV _ _ _ _)))))
theorem EY(fx fy:Int)(x:En):(uQ fx fy x).1.k≠3:=by
 unfold uQ;exact vX (yj _) (vX (yj _) (vX (yj _) (vX (yj _) (EV _ _ _ _ _ _ _))))
theorem EZ(fx fy:Int)(x y:En):(kK fx fy x y).1.k≠3:=by
 unfold kK;exact vX (yj _) (vX (yj _) (vX (yj _) (vX (yj _) (vX (yj _) (EV _ _ _ _ _ _ _)))))
theorem mO(fx fy alt gr:Int)(x:En):(kq fx fy alt x gr).1.k≠3:=by
 unfold kq;exact vX (yj _) (BV _ _ _ _)
theorem Ni{fx fy c alt gr:Int}{x y:En}(ht:1≤x.ty∧x.ty≤17):Sn x (uT fx fy c alt x y gr):=by
 unfold uT;refine vg (kA fun _=>CT _ _ _ _ _ 0) fun h1=>vg (kA fun _=>CT _ _ _ _ _ 0) fun h2=>vg (kA fun _=>SL _ _ _ _) fun h3=>vg (kA fun _=>SM _ _ _) fun h4=>vg (kA fun _=>mO _ _ _ _ _) fun h5=>vg (kA fun _=>mO _ _ _ _ _) fun h6=>vg (kA fun _=>BV _ _ _ _) fun h7=>vg (kA fun _=>CU _ _ _) fun h8=>vg (kA fun _=>EW _ _ _) fun h9=>vg (kA fun _=>EY _ _ _) fun h10=>vg (kA fun _=>EZ _ _ _ _) fun h11=>fun _ _=>by omega
theorem fg{pv:Option En}{fx fy c alt spd bank oalt gr:Int}{x y:En}(ht:jW x=0):Sn x (zy pv fx fy c alt x y spd bank oalt gr):=by
 unfold zy;refine vg (kA fun _=>by show(1:Int)≠3;decide) fun _=> ?_
 unfold qB;exact vg (kA fun _=>yj _) fun _=>vg (kA fun _=>yj _) fun _=>vg (kA fun _=>yj _) fun _=>vg (kA fun _=>yj _) fun _=>vg (kA fun _=>yj _) fun _=>Ni (mJ ht)
theorem xU{spd bank oalt gr:Int}:∀(l:List En) (pv:Option En) (i:Nat) (fx fy c alt:Int),(∀x∈l,x.gap=false→jW x=0)→∀(t:Tk),t∈(zU spd bank oalt gr pv i fx fy c alt l).1→∃(j:Nat) (x:En),t.n=((i+j:Nat):Int)∧l[j]? =some x∧jW x=0∧(t.k=3→14≤x.ty)
 | [],pv,i,fx,fy,c,alt,hl,t,h=>by cases h
 |x::r,pv,i,fx,fy,c,alt,hl,t,h=>by
  have hr:∀y∈r,y.gap=false→jW y=0:=fun y hy=>hl y (.tail _ hy)
  have up:(∃(j:Nat) (z:En),t.n=((i+1+j:Nat):Int)∧r[j]? =some z∧jW z=0∧(t.k=3→14≤z.ty))→∃(j:Nat) (z:En),t.n=((i+j:Nat):Int)∧(x::r)[j]? =some z∧jW z=0∧(t.k=3→14≤z.ty):=by
   rintro⟨j,z,h1,h2,h3⟩;exact⟨j+1,z,by rw[h1];congr 1;omega,by simpa using h2,h3⟩
  rcases hg:x.gap with _|_
  ·by_cases he:(zy pv fx fy c alt x (jV r) spd bank oalt gr).2=0
   ·obtain⟨T,hT⟩:∃T,zy pv fx fy c alt x (jV r) spd bank oalt gr=(T,0):=⟨_,Prod.ext rfl he⟩;have hs:=fg (pv:=pv) (fx:=fx) (fy:=fy) (c:=c) (alt:=alt) (y:=jV r) (spd:=spd) (bank:=bank) (oalt:=oalt) (gr:=gr) (hl x (.head _) hg) he;rw[hT]at hs;rw[vN hg hT]at h;unfold kG at h;split at h
    ·cases h
    ·rcases List.mem_append.1 h with h|h
     ·rw[List.mem_singleton.1 h];exact⟨0,x,rfl,rfl,hl x (.head _) hg,hs⟩
     ·exact up (xU r _ _ _ _ _ _ hr t h)
   ·obtain⟨T,e,hT⟩:∃T e,zy pv fx fy c alt x (jV r) spd bank oalt gr=(T,e):=⟨_,_,rfl⟩;rw[hT]at he;rw[vK hg hT he]at h;cases h
  ·rw[vJ hg]at h;exact up (xU r _ _ _ _ _ _ hr t h)
structure Sq(l:List En)(t:Tk):Prop where
 b:EU t
 leg:∃(j:Nat) (x:En),t.n=(j:Int)∧l[j]? =some x∧jW x=0∧(t.k=3→14≤x.ty)
theorem SP{e:Int}{a b:List Tk×Int×Int}(h:(if e≠0 then a else b).2.2=0)(ha:e≠0→a.2.2≠0:=by intro h;exact h):e=0∧b.2.2=0:=by
 split at h
 ·rename_i h1;exact absurd h (ha h1)
 ·rename_i h1;exact⟨Classical.not_not.1 h1,h⟩
theorem UK{pa pb:ByteArray}{l:List En}{act fx fy c spd bank oalt gr:Int}{T:List Tk×Int×Int}(hT:zV pa pb l act fx fy c spd bank oalt gr=T)(h:T.2.2=0):∀t∈T.1,Sq l t:=by
 subst hT;obtain⟨hp,hv,hG⟩:=xT h
 have hc:Qo c:=by
  unfold zV at h;obtain⟨_,h⟩:=SP h;obtain⟨_,h⟩:=SP h;split at h
  ·cases h
  split at h
  ·cases h
  ·rename_i h1;exact⟨qg,qg⟩
 have hleg:∀x∈l.drop (zM act),x.gap=false→jW x=0:=fun x hx hg=>cZ (ZS l none 0 (Jo hp).1 x (List.mem_of_mem_drop hx) hg)
 intro t ht;rw[hG]at ht;obtain⟨j,x,e1,e2,e3,e4⟩:=xU _ _ _ _ _ _ _ hleg t ht;refine⟨⟨QF _ _ _ _ _ _ _ hc (fun x hx hg=>BO (hleg x hx hg)) t ht,fun hk=>(ZQ _ _ _ _ _ _ _ t ht hk).2.2⟩,zM act+j,x,e1,by rw[List.getElem?_drop]at e2;exact e2,e3,e4⟩
theorem fo{l:List El}{k:Nat}{x:El}(hx:l[k]? =some x):vW (l.take (k+1))=vW (l.take k)+x.L:=by
 induction l generalizing k with
 |nil=>simp at hx
 |cons y l ih=>
  cases k with
  |zero=>
   simp at hx;subst hx;simp[vW]
  |succ k=>
   simp at hx;rw[List.take_succ_cons,List.take_succ_cons,vF,vF,ih hx];omega
theorem fp{ts:List Tk}{r:List Tk×Int×Int}{n:Nat}(h:r.1.length≤n):(kG ts r).1.length≤ts.length+n:=by
 unfold kG;split
 ·exact Nat.zero_le _
 ·rw[List.length_append];omega
theorem tL{spd bank oalt gr:Int}:∀(l:List En) (pv:Option En) (i:Nat) (fx fy c alt:Int),(zU spd bank oalt gr pv i fx fy c alt l).1.length≤l.length
 | [],pv,i,fx,fy,c,alt=>Nat.le_refl _
 |x::r,pv,i,fx,fy,c,alt=>by
  rcases hg:x.gap with _|_
  ·by_cases he:(zy pv fx fy c alt x (jV r) spd bank oalt gr).2=0
   ·obtain⟨T,hT⟩:∃T,zy pv fx fy c alt x (jV r) spd bank oalt gr=(T,0):=⟨_,Prod.ext rfl he⟩;rw[vN hg hT];have:=fp (ts:=[{T with n:=(i:Int)}]) (tL r (some x) (i+1) T.bx T.b_y T.co (tv x alt) (spd:=spd) (bank:=bank) (oalt:=oalt) (gr:=gr));rw[List.length_cons];simp only[List.length_cons,List.length_nil]at this;omega
   ·obtain⟨T,e,hT⟩:∃T e,zy pv fx fy c alt x (jV r) spd bank oalt gr=(T,e):=⟨_,_,rfl⟩;rw[hT]at he;rw[vK hg hT he];exact Nat.zero_le _
  ·rw[vJ hg,List.length_cons];exact Nat.le_trans (tL r _ _ _ _ _ _) qg
theorem wu{pa pb:ByteArray}{l:List En}{act fx fy c spd bank oalt gr:Int}{T:List Tk×Int×Int}(hT:zV pa pb l act fx fy c spd bank oalt gr=T):T.1.length≤60:=by
 subst hT;by_cases h:(zV pa pb l act fx fy c spd bank oalt gr).2.2=0
 ·obtain⟨hp,_,hG⟩:=xT h;rw[hG];have:=tL (spd:=spd) (bank:=bank) (oalt:=oalt) (gr:=gr) (l.drop (zM act)) none (zM act) fx fy c oalt;have:=(Jo hp).2;rw[List.length_drop]at*;omega
 ·unfold zV at h⊢;split
  ·exact Nat.zero_le _
  split
  ·exact Nat.zero_le _
  split
  ·exact Nat.zero_le _
  split
  ·exact Nat.zero_le _
  ·rename_i h1 h2 h3 h4;rw[if_neg h1,if_neg h2,if_neg h3,if_neg h4]at h;have:=tL (spd:=spd) (bank:=bank) (oalt:=oalt) (gr:=gr) (l.drop (zM act)) none (zM act) fx fy c oalt;have:=(Jo (Classical.not_not.1 h1)).2;rw[List.length_drop]at*;omega
def BW(d:Dw):Prop:=d.els=[]→d.gp=false
theorem UL(d:Dw)(x:El):BW (ZO d x):=fun _=>rfl
theorem gL{d:Dw}(h:BW d)(qx qy n:Int):BW (yX d qx qy n):=by
 unfold yX;split
 ·exact h
 ·exact UL _ _
theorem Va{d:Dw}(h:BW d)(cx cy r f s qx qy n:Int):BW (uV d cx cy r f s qx qy n):=by
 unfold uV;split
 ·exact UL _ _
 ·exact gL h _ _ _
theorem UM(n:Int):∀(l:List El) (d:Dw),BW d→BW (bT n d l)
 | [],d,h=>h
 |x::r,d,h=>by
  unfold bT;refine UM n r _ ?_;split
  ·exact UL _ _
  ·exact h
theorem Vy{l:List En}{first:Bool}{d:Dw}{x:Tk}(h:BW d):BW (QG l first d x):=by
 unfold QG;split
 ·intro hn
  show(x.g&& !d.els.isEmpty)=false
  rw[show d.els=[]from hn];simp
 ·exact h
theorem Nj{l:List En}{first done:Bool}{d:Dw}{x:Tk}(h:BW d):BW (ko l first done d x):=by
 rw[YZ];split
 ·exact Vy h
 ·exact gL (Vy h) _ _ _
theorem CV{rad:Int}{d:Dw}{lx ly:En}{x y:Tk}{r:Dw×Tk}(h:BW d)(hd:ZP rad d lx ly x y=some r):BW r.1:=by
 unfold ZP at hd;split at hd
 ·cases hd
 split at hd
 ·split at hd
  ·unfold Vv at hd;dsimp only at hd;split at hd
   ·cases hd
   split at hd
   ·cases hd
   split at hd
   ·cases hd
   split at hd
   ·cases hd
   split at hd
   ·injection hd with hd;subst hd;exact Va (gL h _ _ _) _ _ _ _ _ _ _ _
   ·cases hd
  ·cases hd
 split at hd
 ·cases hd
 ·obtain⟨d',h1,h2⟩:=Option.map_eq_some_iff.1 hd;subst h2;unfold aJ at h1;split at h1
  ·cases h1
  split at h1
  ·cases h1
  unfold xN at h1;split at h1
  ·split at h1
   ·cases h1
   ·injection h1 with h1;subst h1;exact Va (Va (gL h _ _ _) _ _ _ _ _ _ _ _) _ _ _ _ _ _ _ _
  ·cases h1
theorem CW{rad:Int}{d:Dw}{lx:En}{x:Tk}(h:BW d):BW (QA rad d lx x).2:=by
 unfold QA;split
 ·exact UM _ _ _ h
 ·split
  ·exact h
  ·exact UM _ _ _ h
theorem Nk{l:List En}{first:Bool}{d:Dw}{x:Tk}(h:(x.g||(first&&decide ((vB l x).ty=1)))=false):QG l first d x=d:=by
 unfold QG;rw[if_neg];rintro(h1|⟨h1,h2⟩)
 ·rw[h1]at h;cases h
 ·rw[h1,decide_eq_true h2]at h;simp at h
theorem aZ{l:List En}{first:Bool}{d:Dw}{x:Tk}(h:(x.g||(first&&decide ((vB l x).ty=1)))=true):QG l first d x=⟨d.els,x.ax,x.ay,x.g&& !d.els.isEmpty⟩:=by
 unfold QG;rw[if_pos];rcases hg:x.g with _|_
 ·rw[hg]at h;simp at h;exact .inr h
 ·exact .inl rfl
theorem DN{l:List En}{x:Tk}{j:Nat}{e:En}(hn:x.n=(j:Int))(he:l[j]? =some e):vB l x=e:=by
 unfold vB;rw[hn,Int.toNat_natCast,he];rfl
theorem CX{l:List En}{rad:Int}{d:Dw}{lx ly:En}{x y:Tk}{r:Dw×Tk}(hy:Sq l y)(hd:ZP rad d lx ly x y=some r):Sq l r.2:=by
 have hk:=SG hd;have hn:r.2.n=y.n:=(aV (P:=fun _=>True) (d:=d) (fun _ _=>trivial) trivial trivial hd).2;obtain⟨j,e,e1,e2,e3,e4⟩:=hy.leg;exact⟨SK hy.b hd,j,e,by rw[hn];exact e1,e2,e3,fun h=>by rw[hk]at h;cases h⟩
def aj(x:El):Prop:=0≤x.L∧x.L≤60000000
def LW(d:Dw):Prop:=∀x∈d.els,aj x
theorem ww{d:Dw}{x:El}(h:LW d)(hx:aj x):LW (ZO d x):=fun y hy=>by
 rcases List.mem_append.1 hy with hy|hy
 ·exact h y hy
 ·rw[List.mem_singleton.1 hy];exact hx
theorem ed(ax ay bx b_y:Int):0≤zk ax ay bx b_y∧zk ax ay bx b_y≤60000000:=by
 have:=bD ax ay bx b_y;omega
theorem Zd{d:Dw}(h:LW d)(qx qy n:Int):LW (yX d qx qy n):=by
 unfold yX;split
 ·exact h
 ·exact ww h (ed _ _ _ _)
theorem UN{d:Dw}(h:LW d)(cx cy r f s qx qy n:Int):LW (uV d cx cy r f s qx qy n):=by
 unfold uV;split
 ·exact ww h (xJ _ _ _ _ _)
 ·exact Zd h _ _ _
theorem wz(n:Int):∀(l:List El) (d:Dw),LW d→(∀x∈l,aj x)→LW (bT n d l)
 | [],d,h,_=>h
 |x::r,d,h,hl=>by
  unfold bT;refine wz n r _ ?_ (fun y hy=>hl y (.tail _ hy));split
  ·exact ww h (hl x (.head _))
  ·exact h
theorem CY{l:List En}{first done:Bool}{d:Dw}{x:Tk}(h:LW d):LW (ko l first done d x):=by
 have key:LW (QG l first d x):=by
  unfold QG;split<;>exact h
 rw[YZ];split
 ·exact key
 ·exact Zd key _ _ _
theorem KD(ax ay bx b_y:Int):aj (tK ax ay bx b_y):=ed _ _ _ _
theorem ee(ax ay bx b_y cx cy r f s:Int):aj (KC ax ay bx b_y cx cy r f s):=xJ _ _ _ _ _
theorem SR(fx fy inb tn leg rad:Int):∀x∈Jk fx fy inb tn leg rad,aj x:=by
 intro x hx;unfold Jk at hx;simp only[List.mem_cons,List.not_mem_nil,or_false]at hx;rcases hx with rfl|rfl|rfl|rfl
 ·exact ee ..
 ·exact KD ..
 ·exact ee ..
 ·exact KD ..
theorem SU(w fx fy inb tn leg rad:Int):∀x∈ZN w fx fy inb tn leg rad,aj x:=by
 intro x hx;unfold ZN at hx;dsimp only at hx;split at hx
 ·simp only[List.mem_cons,List.not_mem_nil,or_false]at hx;rcases hx with rfl|rfl|rfl
  ·exact KD ..
  ·exact ee ..
  ·exact KD ..
 ·split at hx
  ·simp only[List.mem_cons,List.not_mem_nil,or_false]at hx;rcases hx with rfl|rfl|rfl
   ·exact KD ..
   ·exact ee ..
   ·exact KD ..
  ·cases hx
theorem SZ(fx fy crs tn dst rad:Int):∀x∈(uU fx fy crs tn dst rad).2,aj x:=by
 intro x hx;unfold uU at hx;split at hx
 ·cases hx
 split at hx
 ·cases hx
 dsimp only at hx;split at hx
 ·simp only[List.mem_cons,List.not_mem_nil,or_false]at hx;rcases hx with rfl|rfl|rfl|rfl|rfl
  ·exact KD ..
  ·exact KD ..
  ·exact ee ..
  ·exact KD ..
  ·exact KD ..
 ·cases hx
theorem Aa{rad:Int}{d:Dw}{lx:En}{x:Tk}(h:LW d):LW (QA rad d lx x).2:=by
 unfold QA;split
 ·exact wz _ _ _ h (SZ _ _ _ _ _ _)
 ·split
  ·exact h
  ·exact wz _ _ _ h (fun y hy=>(List.mem_append.1 hy).elim (SU _ _ _ _ _ _ _ y) (SR _ _ _ _ _ _ y))
theorem Ab{rad:Int}{d:Dw}{lx ly:En}{x y:Tk}{r:Dw×Tk}(h:LW d)(hd:ZP rad d lx ly x y=some r):LW r.1:=by
 unfold ZP at hd;split at hd
 ·cases hd
 split at hd
 ·split at hd
  ·unfold Vv at hd;dsimp only at hd;split at hd
   ·cases hd
   split at hd
   ·cases hd
   split at hd
   ·cases hd
   split at hd
   ·cases hd
   split at hd
   ·injection hd with hd;subst hd;exact UN (Zd h _ _ _) _ _ _ _ _ _ _ _
   ·cases hd
  ·cases hd
 split at hd
 ·cases hd
 ·obtain⟨d',h1,h2⟩:=Option.map_eq_some_iff.1 hd;subst h2;unfold aJ at h1;split at h1
  ·cases h1
  split at h1
  ·cases h1
  unfold xN at h1;split at h1
  ·split at h1
   ·cases h1
   ·injection h1 with h1;subst h1;exact UN (UN (Zd h _ _ _) _ _ _ _ _ _ _ _) _ _ _ _ _ _ _ _
  ·cases h1
theorem Jp{l:List En}{rad:Int}:∀(r:List Tk) (first done:Bool) (d:Dw),LW d→LW (uE l rad first done d r).1
 | [],first,done,d,h=>h
 |x::r,first,done,d,h=>by
  have hp:=CY (l:=l) (first:=first) (done:=done) (x:=x) h;by_cases h2:x.k=2
  ·rw[BQ h2];exact Jp r _ _ _ (UN hp _ _ _ _ _ _ _ _)
  by_cases h3:x.k=3
  ·by_cases hb:(QA rad (ko l first done d x) (vB l x) x).1=0
   ·rw[BU h3 hb];exact Jp r _ _ _ (Aa hp)
   ·rw[BS h3 hb];exact h
  cases r with
  |nil=>
   rw[KQ h2 h3];exact Zd hp _ _ _
  |cons y r=>
   by_cases hn:y.g=true∨ZP rad (ko l first done d x) (vB l x) (vB l y) x y=none
   ·rw[Yl h2 h3 hn];exact Jp (y::r) _ _ _ (Zd hp _ _ _)
   ·have hg:y.g=false:=by
     cases hg:y.g with
     |false=>rfl
     |true=>exact absurd (.inl hg) hn
    obtain⟨⟨d',y'⟩,hq⟩:∃q,ZP rad (ko l first done d x) (vB l x) (vB l y) x y=some q:=Option.ne_none_iff_exists'.1 (fun e=>hn (.inr e));rw[mN h2 h3 hg hq];exact Jp (y'::r) _ _ _ (Ab hp hq)
termination_by r=>r.length
theorem mP:∀{l:List El},(∀x∈l,aj x)→0≤vW l∧vW l≤60000000*l.length
 | [],h=>by simp[vW]
 |x::l,h=>by
  have a:=h x List.mem_cons_self;have b:=mP (l:=l) (fun y hy=>h y (List.mem_cons_of_mem _ hy));unfold aj at a;rw[vF,List.length_cons];omega
end Go.Proofs.YtiegohjobhehcaaGreatDoor
