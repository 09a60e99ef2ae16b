/-
  Distances along a path: nodes, and the ends of its elements. No program.
-/
import Derived.Test.YtiegohjobhehcaaGreatDoorMBuildV
import Derived.Test.YtiegohjobhehcaaGreatDoorMPrMem
namespace Go.Proofs.YtiegohjobhehcaaGreatDoor
set_option linter.unusedVariables false
set_option linter.unusedSimpArgs false
theorem Mf{l:List El}{len:Int}(h:gk l len=0):∀x∈l,1≤x.L∧x.L≤60000000:=fun x hx=>by
 obtain⟨i,hi⟩:=List.getElem?_of_mem hx;exact nS h hi
theorem xZ{l:List El}{k:Nat}{x:El}(hx:l[k]? =some x):vW (l.take (k+1))=vW (l.take k)+x.L:=by
 induction l generalizing k with
 |nil=>simp at hx
 |cons y l ih=>
  cases k with
  |zero=>
   simp at hx;subst hx;simp[vW]
  |succ k=>
   simp at hx;rw[List.take_succ_cons,List.take_succ_cons,vF,vF,ih hx];omega
theorem VR:∀{l:List El} {k:Nat} {t:Int},(∀x∈l,1≤x.L∧x.L≤60000000)→1≤t→bF l (vW (l.take k)+t)=bF (l.drop k) t
 | [],k,t,h,ht=>by simp[bF]
 |x::l,0,t,h,ht=>by rw[List.take_zero,QZ,Int.zero_add,List.drop_zero]
 |x::l,k+1,t,h,ht=>by
  have a:=h x List.mem_cons_self;have hl:∀y∈l,1≤y.L∧y.L≤60000000:=fun y hy=>h y (List.mem_cons_of_mem _ hy)
  have b:=Vp (l:=l.take k) (fun y hy=>hl y (List.mem_of_mem_take hy));rw[List.take_succ_cons,vF,List.drop_succ_cons,bF,if_pos qg,show x.L+vW (l.take k)+t-x.L=vW (l.take k)+t from by omega];exact VR hl ht
theorem YL{l:List El}{k:Nat}(h:∀x∈l,1≤x.L∧x.L≤60000000):0≤vW (l.take k)∧vW (l.take k)≤vW l:=by
 induction l generalizing k with
 |nil=>simp[vW]
 |cons x l ih=>
  have a:=h x List.mem_cons_self
  cases k with
  |zero=>
   have b:=Vp h;rw[List.take_zero,QZ];omega
  |succ k=>
   have b:=ih (k:=k) (fun y hy=>h y (List.mem_cons_of_mem _ hy));rw[List.take_succ_cons,vF,vF];omega
theorem YM{d L:Int}(hd: -4000000≤d∧d≤4000000)(hL:1≤L):(qL 2 d L L).1=d:=by
 unfold qL;rw[if_neg qg,Int.mul_comm,WG d L qg];have:Qy d=true:=by unfold Qy;exact decide_eq_true qg
 rw[if_pos this]
structure Bt(l:List En)(act:Int)(d:Dw):Prop where
 val:tJ d
 num:Qw (aX l act) d
 len:(d.els.length:Int)≤500
theorem Eg{pa pb:ByteArray}{l:List En}{act fx fy c spd bank oalt gr:Int}{R:Int×Int}(h:(uk l fx fy R (zV pa pb l act fx fy c spd bank oalt gr)).2.2=0):
 ∃d,(uk l fx fy R (zV pa pb l act fx fy c spd bank oalt gr)).1=d.els∧Bt l act d:=by
 have hT:(zV pa pb l act fx fy c spd bank oalt gr).2.2=0:=by
  unfold uk at h;by_cases h1:(zV pa pb l act fx fy c spd bank oalt gr).2.2≠0
  ·rw[if_pos h1]at h;exact absurd h h1
  ·exact Classical.not_not.1 h1
 obtain⟨hp,hv,hG⟩:=xT hT;rw[hG]at h hT⊢;have hpts:=aY hp;have hlt:∀x∈l.drop (zM act),x.gap=false→qw x.ex x.ey=true:=fun x hx=>hpts x (List.mem_of_mem_drop hx)
 have V:=Yi (spd:=spd) (bank:=bank) (oalt:=oalt) (gr:=gr) (l.drop (zM act)) none (zM act) fx fy c oalt hlt;have N:=Yk (spd:=spd) (bank:=bank) (oalt:=oalt) (gr:=gr) (l.drop (zM act)) none (zM act) fx fy c oalt
 have N':∀t∈(zU spd bank oalt gr none (zM act) fx fy c oalt (l.drop (zM act))).1,aX l act t.n:=fun t ht=>by
  obtain⟨j,x,e1,e2,e3⟩:=N t ht;exact⟨zM act+j,x,e1,by omega,by rw[List.getElem?_drop]at e2;exact e2,e3⟩
 clear N;unfold uk at h⊢;rw[if_neg (by rw[hT];simp)]at h⊢;by_cases hR:R.2≠0
 ·rw[if_pos hR]at h;exact absurd h hR
 rw[if_neg hR]at h⊢;generalize(zU spd bank oalt gr none (zM act) fx fy c oalt (l.drop (zM act))).1=T at*
 cases T with
 |nil=>exact⟨⟨[],fx,fy,false⟩,rfl,⟨hv,fun x hx=>by cases hx⟩,(fun x hx=>by cases hx),jL⟩
 |cons x r=>
  dsimp only at h⊢;by_cases h1:(jm l R.1 true false ⟨[],fx,fy,false⟩ x r).2.2≠0
  ·rw[if_pos h1]at h;exact absurd h h1
  rw[if_neg h1]at h⊢;by_cases h2:((jm l R.1 true false ⟨[],fx,fy,false⟩ x r).1.els.length:Int)>500
  ·rw[if_pos h2]at h;cases h
  rw[if_neg h2];have he:=Classical.not_not.1 h1
  exact⟨_,rfl,tZ r true false _ x ⟨hv,fun x hx=>by cases hx⟩ (V x (.head _)) (fun y hy=>V y (.tail _ hy)) he,
   xd r true false _ x (fun x hx=>by cases hx) (N' x (.head _)) (fun y hy=>N' y (.tail _ hy)),qg⟩
theorem Lo{l:List En}{act:Int}{d:Dw}(h:Bt l act d):∀x∈d.els,1≤x.L∧x.L≤60000000:=fun x hx=>by
 have e:=h.val.els x hx;refine⟨e.pos,?_⟩;rcases hc:x.c with _|_
 ·rw[(e.line hc).1];exact Int.le_trans (bD _ _ _ _).2 qG
 ·rw[(e.arc hc).2];exact(xJ _ _ _ _ _).2
def Um(ax ay bx b_y k:Int):Prop:=(ax-bx≤k∧bx-ax≤k)∧(ay-b_y≤k∧b_y-ay≤k)
theorem Wq{cx cy r f s al px py:Int}(h:ZI cx cy r f s al px py=false)(h0:(jJ cx cy r f s al).2.2.2=0):Um (jJ cx cy r f s al).1 (jJ cx cy r f s al).2.1 px py 16:=by
 unfold ZI sM at h;rw[decide_eq_true h0,Bool.true_and]at h;have h:=of_decide_eq_false h;unfold Um;generalize(jJ cx cy r f s al).1=u at*;generalize(jJ cx cy r f s al).2.1=v at*;omega
theorem Wr{l:List El}{len s:Int}{k:Nat}{x:El}(hc:gk l len=0)(hx:l[k]? =some x)(h1:1≤s)(h2:s≤x.L):YW l len (vW (l.take k)+s)=Eu x s:=by
 have ok:=YE hc;have hL:=Mf hc;have b:=YL (k:=k) hL;have b2:=YL (k:=k+1) hL;rw[xZ hx]at b2;unfold YW;rw[if_neg (by simp[hc]),if_neg (by rw[ok.sum];omega),VR hL h1,TD hx,if_neg qg]
theorem rX{ax ay bx b_y cx cy r f s L:Int}(h:ZJ true ax ay bx b_y cx cy r f s L=0):L=zq cx cy r f s∧1≤L∧ZI cx cy r f s (zq cx cy r f s) bx b_y=false:=by
 unfold ZJ at h;split at h
 ·cases h
 rw[if_pos rfl]at h;split at h
 ·cases h
 split at h
 ·cases h
 split at h
 ·cases h
 rename_i h3 h4;refine⟨Classical.byContradiction fun e=>h3 (.inr e),by omega,?_⟩;rcases hb:ZI cx cy r f s (zq cx cy r f s) bx b_y with _|_
 ·rfl
 ·rw[hb,Bool.or_true]at h4;exact absurd rfl h4
theorem Ws{l:List El}{len:Int}(hc:gk l len=0){k:Nat}{x:El}(hx:l[k]? =some x)(he:(YW l len (vW (l.take (k+1)))).2.2.2=0):
 Um (YW l len (vW (l.take (k+1)))).1 (YW l len (vW (l.take (k+1)))).2.1 x.bx x.b_y 16:=by
 have e0:=(YE hc).err k x hx;unfold El.err at e0;rw[xZ hx]at he⊢;rcases hb:x.c with _|_
 ·rw[hb]at e0;obtain⟨v1,v2,_,_,v5⟩:=ZK e0;rw[Wr hc hx v5 (Int.le_refl _)];have v1:=JX v1;have v2:=JX v2;unfold Eu;rw[if_neg (by simp[hb]),YM qg v5,YM qg v5];unfold Um;dsimp only;omega
 ·rw[hb]at e0;obtain⟨v1,v2,v3⟩:=rX e0;rw[Wr hc hx v2 (Int.le_refl _)]at he⊢;unfold Eu at he⊢;rw[if_pos hb]at he⊢;rw[v1]at he⊢;exact Wq v3 he
theorem ML{l:List El}{len t:Int}(he:(YW l len t).2.2.2=0):gk l len=0:=by
 apply Classical.byContradiction;intro h;unfold YW at he;rw[if_pos h]at he;exact h he
structure Gn where
 x:Int
 y:Int
 d:Int
 n:Int
 al:Int
 ah:Int
abbrev gn0:Gn:=⟨0,0,0,0,0,0⟩
def gD(gs:List Gn):Nat→Int:=fun j=>(gs.getD j gn0).d
theorem Jd{D E:Nat→Int}:∀n,(∀j,j<n→D j=E j)→kw D n=kw E n
 |0,_=>rfl
 |n+1,h=>by
  have h1:=Jd n fun j hj=>h j qg
  simp only[kw];rw[h1,h n qg]
structure RI(els:List El)(k:Nat)(gs:List Gn):Prop where
 sum:kw (gD gs) gs.length=vW (els.take k)
 at_:∀i g,gs[i]? =some g→∃m x,m<k∧els[m]? =some x∧kw (gD gs) (i+1)=vW (els.take (m+1))∧g.x=x.bx∧g.y=x.b_y
theorem Ro(els:List El):RI els 0 []:=⟨rfl,fun i g h=>by simp at h⟩
theorem pV{gs r:List Gn}{j:Nat}(h:j<gs.length):gD (gs++r) j=gD gs j:=by
 unfold gD;rw[List.getD_eq_getElem?_getD,List.getD_eq_getElem?_getD,List.getElem?_append_left h]
theorem Bx{gs:List Gn}{g:Gn}:gD (gs++[g]) gs.length=g.d:=by
 unfold gD;rw[List.getD_eq_getElem?_getD,List.getElem?_append_right (Nat.le_refl _),Nat.sub_self];rfl
theorem Rp{els:List El}{k:Nat}{gs:List Gn}{x:El}(h:RI els k gs)(hx:els[k]? =some x)(n al ah:Int):RI els (k+1) (gs++[⟨x.bx,x.b_y,x.L,n,al,ah⟩]):=by
 have hs:=xZ hx;have e:∀i,i≤gs.length→kw (gD (gs++[⟨x.bx,x.b_y,x.L,n,al,ah⟩])) i=kw (gD gs) i:=fun i hi=>Jd i fun j hj=>pV qg
 have e2:kw (gD (gs++[⟨x.bx,x.b_y,x.L,n,al,ah⟩])) (gs.length+1)=vW (els.take (k+1)):=by
  simp only[kw];rw[e _ (Nat.le_refl _),Bx,h.sum,hs]
 refine⟨by rw[List.length_append];exact e2,fun i g hg=> ?_⟩;rcases Nat.lt_or_ge i gs.length with hi|hi
 ·rw[List.getElem?_append_left hi]at hg;obtain⟨m,y,h1,h2,h3,h4⟩:=h.at_ i g hg;exact⟨m,y,by omega,h2,by rw[e _ hi];exact h3,h4⟩
 ·have hl:=(List.getElem?_eq_some_iff.1 hg).1;rw[List.length_append,List.length_singleton]at hl;obtain rfl:i=gs.length:=qg;rw[List.getElem?_append_right (Nat.le_refl _),Nat.sub_self]at hg;simp at hg;subst hg;exact⟨k,x,by omega,hx,e2,rfl,rfl⟩
theorem MO{els:List El}{k:Nat}{gs:List Gn}{g:Gn}{x:El}(h:RI els k (gs++[g]))(hx:els[k]? =some x):RI els (k+1) (gs++[⟨x.bx,x.b_y,g.d+x.L,g.n,g.al,g.ah⟩]):=by
 have hs:=xZ hx;have e:∀i,i≤gs.length→kw (gD (gs++[⟨x.bx,x.b_y,g.d+x.L,g.n,g.al,g.ah⟩])) i=kw (gD (gs++[g])) i:=fun i hi=>Jd i fun j hj=>by rw[pV qg,pV qg]
 have h0:=h.sum;rw[List.length_append,List.length_singleton]at h0;simp only[kw]at h0;rw[Bx]at h0
 have e2:kw (gD (gs++[⟨x.bx,x.b_y,g.d+x.L,g.n,g.al,g.ah⟩])) (gs.length+1)=vW (els.take (k+1)):=by
  simp only[kw];rw[e _ (Nat.le_refl _),Bx,hs];dsimp only;omega
 refine⟨by rw[List.length_append];exact e2,fun i q hq=> ?_⟩;rcases Nat.lt_or_ge i gs.length with hi|hi
 ·rw[List.getElem?_append_left hi]at hq;obtain⟨m,y,h1,h2,h3,h4⟩:=h.at_ i q (by rw[List.getElem?_append_left hi];exact hq);exact⟨m,y,by omega,h2,by rw[e _ hi];exact h3,h4⟩
 ·have hl:=(List.getElem?_eq_some_iff.1 hq).1;rw[List.length_append,List.length_singleton]at hl;obtain rfl:i=gs.length:=qg;rw[List.getElem?_append_right (Nat.le_refl _),Nat.sub_self]at hq;simp at hq;subst hq;exact⟨k,x,by omega,hx,e2,rfl,rfl⟩
structure RK(P:Int→Prop)(els:List El)(k:Nat)(gs:List Gn):Prop where
 ri:RI els k gs
 len:gs.length≤k
 bd:∀g∈gs,(0≤g.d∧g.d≤60000000*k)∧(-2000000≤g.x∧g.x≤2000000∧ -2000000≤g.y∧g.y≤2000000)∧P g.n∧qz g.al∧qz g.ah
def Lp(P:Int→Prop)(x:El):Prop:=(1≤x.L∧x.L≤60000000)∧(-2000000≤x.bx∧x.bx≤2000000∧ -2000000≤x.b_y∧x.b_y≤2000000)∧P x.n
theorem Rq(P:Int→Prop)(els:List El):RK P els 0 []:=⟨Ro els,Nat.le_refl _,fun g hg=>by simp at hg⟩
theorem Rs{P:Int→Prop}{els:List El}{k:Nat}{gs:List Gn}{x:El}(h:RK P els k gs)(hx:els[k]? =some x)(hR:Lp P x){al ah:Int}(ha:qz al)(hb:qz ah):RK P els (k+1) (gs++[⟨x.bx,x.b_y,x.L,x.n,al,ah⟩]):=by
 refine⟨Rp h.ri hx x.n al ah,by have:=h.len;rw[List.length_append,List.length_singleton];omega,fun g hg=> ?_⟩;rcases List.mem_append.1 hg with hg|hg
 ·obtain⟨⟨h1,h2⟩,h3⟩:=h.bd g hg;exact⟨⟨h1,qg⟩,h3⟩
 ·rw[List.mem_singleton.1 hg];obtain⟨⟨h1,h2⟩,h3,h4⟩:=hR;exact⟨⟨by dsimp only;omega,by dsimp only;omega⟩,h3,h4,ha,hb⟩
theorem MP{P:Int→Prop}{els:List El}{k:Nat}{gs:List Gn}{g:Gn}{x:El}(h:RK P els k (gs++[g]))(hx:els[k]? =some x)(hR:Lp P x):RK P els (k+1) (gs++[⟨x.bx,x.b_y,g.d+x.L,g.n,g.al,g.ah⟩]):=by
 have hl:=h.len;rw[List.length_append,List.length_singleton]at hl;refine⟨MO h.ri hx,by rw[List.length_append,List.length_singleton];omega,fun q hq=> ?_⟩;obtain⟨⟨g1,g2⟩,g3,g4⟩:=h.bd g (List.mem_append.2 (Or.inr (List.mem_singleton.2 rfl)));rcases List.mem_append.1 hq with hq|hq
 ·obtain⟨⟨h1,h2⟩,h3⟩:=h.bd q (List.mem_append.2 (Or.inl hq));exact⟨⟨h1,qg⟩,h3⟩
 ·rw[List.mem_singleton.1 hq];obtain⟨⟨h1,h2⟩,h3,h4⟩:=hR;exact⟨⟨by dsimp only;omega,by dsimp only;omega⟩,h3,g4⟩
theorem rZ{l:List En}{act:Int}{d:Dw}(h:Bt l act d):∀x∈d.els,Lp (aX l act) x:=fun x hx=>by
 have e:=h.val.els x hx;exact⟨Lo h x hx,JX e.b,h.num x hx⟩
theorem pW{els:List El}{len:Int}{k:Nat}{gs:List Gn}(hR:RI els k gs){i:Nat}{g:Gn}(hg:gs[i]? =some g)(he:(YW els len (kw (gD gs) (i+1))).2.2.2=0):
 Um (YW els len (kw (gD gs) (i+1))).1 (YW els len (kw (gD gs) (i+1))).2.1 g.x g.y 16:=by
 obtain⟨m,x,_,hx,hs,e1,e2⟩:=hR.at_ i g hg;have hc:=ML he;rw[hs]at he⊢;rw[e1,e2];exact Ws hc hx he
end Go.Proofs.YtiegohjobhehcaaGreatDoor
