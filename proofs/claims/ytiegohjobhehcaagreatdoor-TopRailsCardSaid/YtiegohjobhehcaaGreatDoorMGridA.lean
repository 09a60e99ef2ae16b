/-
  The check of a forecast.
-/
import Derived.Test.YtiegohjobhehcaaGreatDoorMLineD
import Derived.Test.YtiegohjobhehcaaGreatDoorMPerfA
set_option maxRecDepth 100000
set_option maxHeartbeats 16000000
namespace Go.Proofs.YtiegohjobhehcaaGreatDoor
open Go.RowKit
set_option linter.unusedVariables false
set_option linter.unusedSimpArgs false
theorem xq(n lo hi:Int)(w:World):Calls Tryz.prog 120 #[Iv n,Iv lo,Iv hi] w (bR (fun b:Bool=> .bool b) (fun b=>Hid (b=true↔(lo≤n∧n≤hi))) w):=by
 by_cases h1:lo≤n<;>by_cases h2:n≤hi
 all_goals
  go_enter Tryz.func120,Tryz.ntmps120;go_wp2
  all_goals
   go_ret;exact⟨_,rfl,hide (by simp<;>omega),Below.refl _ _⟩
theorem US{p:Prop}(h:true=true↔p):p:=h.1 rfl
theorem UT{p:Prop}(h:false=true↔p):¬p:=fun hp=>Bool.noConfusion (h.2 hp)
structure Gd where
 cx:Int
 cy:Int
 ce:Int
 nx:Int
 ny:Int
 al:Sl
 wi:Sl
 dv:Sl
 er:Int
abbrev Gd.cells(g:Gd):List Value:=[Iv g.cx,Iv g.cy,Iv g.ce,Iv g.nx,Iv g.ny,g.al.v,g.wi.v,g.dv.v,Iv g.er]
def EL(w:World)(x:Sl):Prop:=x.n≤maxLen∧∃f,zY w x.S x.n f
theorem NN{w W:World}{L:List qZ}(hM:qF w W L){x:Sl}(h:EL w x):EL W x:=⟨h.1,h.2.elim fun f hf=>⟨f,zj hM hf⟩⟩
structure Zz(w:World)(g:Gd):Prop where
 cx:qz g.cx
 cy:qz g.cy
 ce:qz g.ce
 nx:qz g.nx
 ny:qz g.ny
 er:qz g.er
 al:fS w g.al
 wi:EL w g.wi
 dv:fS w g.dv
theorem zZ{w W:World}{L:List qZ}(hM:qF w W L){g:Gd}(h:Zz w g):Zz W g:=⟨h.cx,h.cy,h.ce,h.nx,h.ny,h.er,gh hM h.al,NN hM h.wi,gh hM h.dv⟩
structure UU(g:Gd):Prop where
 nx:1≤g.nx∧g.nx≤16
 ny:1≤g.ny∧g.ny≤16
 al:1≤g.al.n∧g.al.n≤8
 wi:(g.wi.n:Int)=g.nx*g.ny*g.al.n
 dv:(g.dv.n:Int)=g.nx*g.ny*g.al.n
 cx: -2000000≤g.cx∧g.cx≤2000000
 cy: -2000000≤g.cy∧g.cy≤2000000
 ce:1≤g.ce∧g.ce≤2000000
theorem Yo(x y:Int)(w:World):Calls Tryz.prog 119 #[.agg #[Iv x,Iv y]] w (bR (fun b:Bool=> .bool b) (fun b=>Hid (b=true→(-2000000≤x∧x≤2000000)∧ -2000000≤y∧y≤2000000)) w):=by
 have hM:=qo w;go_enter Tryz.func119,Tryz.ntmps119;go_wp2_with(first|(refine qe ?_;clear hM;intro g W hM)|(go_at_call 120;(with_reducible refine uD hM (xq _ _ _ _) ?_ ?_)<;>(clear hM;intro W1 hb hM;first|(have hs:=US hb.out;clear hb)|(have hs:=UT hb.out;clear hb))))
 all_goals
  go_ret
 all_goals first
  |exact⟨_,rfl,hide (fun _=>by omega),hM.below⟩
  |exact⟨_,rfl,hide (fun h=>Bool.noConfusion h),hM.below⟩
theorem KF(g:Gd)(fa fd:Nat→Int)(fw:Nat→Int×Int)(w:World)(h1:g.al.n≤1000000)(h2:g.wi.n≤1000000)(hd:g.dv.n=g.wi.n)(ha:Hid (jT w g.al.S g.al.n fa))(hw:Hid (zY w g.wi.S g.wi.n fw))(hv:Hid (jT w g.dv.S g.dv.n fd)):
 Calls Tryz.prog 186 #[.agg g.cells.toArray] w (bR (fun b:Bool=> .bool b) (fun b=>Hid (b=true→((-2000000≤g.cx∧g.cx≤2000000)∧ -2000000≤g.cy∧g.cy≤2000000)∧1≤g.ce∧g.ce≤2000000)) w):=by
 have hM:=qo w;obtain⟨cx,cy,ce,nx,ny,⟨SA,an,ac⟩,⟨SW,wn,wc⟩,⟨SD,dn,dc⟩,er⟩:=g;dsimp only at h1 h2 hd ha hw hv⊢;obtain rfl:=hd.symm;go_enter Tryz.func186,Tryz.ntmps186;go_upto_region 1 with(first|(refine qe ?_;clear hM;intro g W hM));obtain⟨gp,rfl⟩:=uC hM;dsimp only[Gd.cells,Sl.v]at hM;refine qj ?_;go_upto_region 3 with(first|(refine qe ?_;clear hM;intro g W hM)|(go_at_call 119;(with_reducible refine uD hM (Yo _ _ _) ?_ ?_)<;>(clear hM;intro W1 hb hM;first|(have hs:=hb.out (by trivial);clear hb)|clear hb))|(go_at_call 120;(with_reducible refine uD hM (xq _ _ _ _) ?_ ?_)<;>(clear hM;intro W1 hb hM;first|(have hs:=US hb.out;clear hb)|(have hs:=UT hb.out;clear hb))))
 all_goals first
  |(go_ret;exact⟨_,rfl,hide (fun h=>Bool.noConfusion h),hM.below⟩)
  |skip
 have HS:Hid (((-2000000≤cx∧cx≤2000000)∧ -2000000≤cy∧cy≤2000000)∧1≤ce∧ce≤2000000):=hide qg;go_wp2_with(first|(refine qe ?_;clear hM;intro g W hM));go_loopw [26] (fun s wx=>∃k:Nat,k≤an∧s=Iv k∧qF w wx [(gp,[Iv cx,Iv cy,Iv ce,Iv nx,Iv ny,.slice SA an ac,.slice SW wn wc,.slice SD wn dc,Iv er],38)]) (fun s _=>an-(intOf s).toNat)
 case atStart=>exact⟨0,by omega,rfl,hM⟩
 case round=>
  clear hM;obtain⟨k,hk,rfl,hM⟩:=hrel;by_cases hlt:k<an
  ·obtain⟨b,o,rfl,hc,hi⟩:=ha.out k hlt;have HC:=hide hc;clear hc;go_wp2_with(first|(go_at_call 120;(with_reducible refine uD hM (xq _ _ _ _) ?_ ?_)<;>(clear hM;intro W1 hb hM;first|(have hs:=US hb.out;clear hb)|(have hs:=UT hb.out;clear hb)))|((with_reducible refine lX ?_);refine zD hM rfl (by first|exact rfl|(go_simp;done)) rfl (ur rfl) (HC.out) ?_)|(refine qe ?_;clear hM;intro g W hM))
   all_goals first
    |(go_ret;exact⟨_,rfl,hide (fun h=>Bool.noConfusion h),hM.below⟩)
    |(go_roundw
      case rel=>exact⟨k+1,by omega,by go_num,hM⟩
      case measure=>simp[intOf];omega)
  ·go_wp2_with(first|(refine qe ?_;clear hM;intro g W hM));go_loopw [37] (fun s wx=>∃k:Nat,k≤wn∧s=Iv k∧qF w wx [(gp,[Iv cx,Iv cy,Iv ce,Iv nx,Iv ny,.slice SA an ac,.slice SW wn wc,.slice SD wn dc,Iv er],38)]) (fun s _=>wn-(intOf s).toNat)
   case atStart=>exact⟨0,by omega,rfl,hM⟩
   case round=>
    clear hM;obtain⟨j,hj,rfl,hM⟩:=hrel;by_cases hlj:j<wn
    ·obtain⟨b,o,rfl,hc,hi⟩:=hw.out j hlj;obtain⟨b2,o2,rfl,hc2,hi2⟩:=hv.out j hlj;have HC:=hide hc;have HD:=hide hc2;clear hc hc2;go_wp2_with(first|(go_at_call 120;(with_reducible refine uD hM (xq _ _ _ _) ?_ ?_)<;>(clear hM;intro W1 hb hM;first|(have hs:=US hb.out;clear hb)|(have hs:=UT hb.out;clear hb)))|((with_reducible refine lX ?_);refine yL hM rfl (by first|exact rfl|(go_simp;done)) rfl (Zg rfl) HC.out (bQ rfl) ?_)|((with_reducible refine lX ?_);refine zD hM rfl (by first|exact rfl|(go_simp;done)) rfl (ur rfl) (HD.out) ?_)|(refine qe ?_;clear hM;intro g W hM))
     all_goals first
      |(go_ret;exact⟨_,rfl,hide (fun h=>Bool.noConfusion h),hM.below⟩)
      |(go_roundw
        case rel=>exact⟨j+1,by omega,by go_num,qC hM⟩
        case measure=>simp[intOf];omega)
    ·go_wp2_with(first|(refine qe ?_;clear hM;intro g W hM))
     all_goals(go_ret;exact⟨_,rfl,hide (fun _=>HS.out),hM.below⟩)
theorem qq4{a b A B:Int}(ha:1≤a∧a≤A)(hb:1≤b∧b≤B):1≤a*b∧a*b≤A*B:=by
 have h1:0≤(a-1)*(b-1):=Int.mul_nonneg qg qg;have h2:a*b≤A*b:=Int.mul_le_mul_of_nonneg_right ha.2 qg;have h3:A*b≤A*B:=Int.mul_le_mul_of_nonneg_left hb.2 qg;simp only[Int.sub_mul,Int.mul_sub,Int.one_mul,Int.mul_one]at h1;omega
set_option maxRecDepth 100000 in
set_option maxHeartbeats 8000000 in
theorem Gh(g:Gd)(w:World)(HG:Hid (Zz w g)):Calls Tryz.prog 116 #[.agg g.cells.toArray] w (bR (fun n:Int=>Iv n) (fun n=>qz n∧(n=0→UU g)) w):=by
 have hM:=qo w;obtain⟨fa,FA⟩:=HG.out.al.2;obtain⟨fw,FW⟩:=HG.out.wi.2;obtain⟨fd,FD⟩:=HG.out.dv.2;have za:=Qq HG.out.al.1;have zw:=Qq HG.out.wi.1;have zd:=Qq HG.out.dv.1;obtain⟨cx,cy,ce,nx,ny,⟨SA,an,ac⟩,⟨SW,wn,wc⟩,⟨SD,dn,dc⟩,er⟩:=g;dsimp only at FA FW FD za zw zd⊢;replace FA:=hide FA;replace FW:=hide FW;replace FD:=hide FD;clear HG;go_enter Tryz.func116,Tryz.ntmps116;go_upto_region 1 with(first|(refine qe ?_;clear hM;intro g W hM));obtain⟨gp,rfl⟩:=uC hM;dsimp only[Gd.cells,Sl.v]at hM;refine qj ?_;go_upto_region 3 with(first|refine zC ?_)
 all_goals first
  |(go_ret;exact⟨_,rfl,⟨⟨qG,qG⟩,fun h=>absurd h qG⟩,hM.below⟩)
  |skip
 have b1:1≤nx∧nx≤16:=qg;have b2:1≤ny∧ny≤16:=qg;have b3:1≤an∧an≤8:=qg;have b4:=qq4 b1 b2;have b5:=qq4 (a:=nx*ny) (b:=(an:Int)) b4 (B:=8) qg;have w1:=IntWalk.i64_in (nx*ny) qg;have w2:=IntWalk.i64_in (nx*ny*an) qg;by_cases hw:(wn:Int)=nx*ny*an;rotate_left
 ·have e1:((wn:Int) !=nx*ny*an)=true:=by simpa using hw
  go_wp2_with(first|refine zC ?_)
  all_goals(go_ret;exact⟨_,rfl,⟨⟨qG,qG⟩,fun h=>absurd h qG⟩,hM.below⟩)
 by_cases hd:(dn:Int)=nx*ny*an;rotate_left
 ·have e1:((wn:Int) !=nx*ny*an)=false:=by simpa using hw
  have e2:((dn:Int) !=nx*ny*an)=true:=by simpa using hd
  have HW:=hide hw;clear hw;go_wp2_with(first|refine zC ?_)
  all_goals(go_ret;exact⟨_,rfl,⟨⟨qG,qG⟩,fun h=>absurd h qG⟩,hM.below⟩)
 have e1:((wn:Int) !=nx*ny*an)=false:=by simpa using hw
 have hdw:dn=wn:=qg;have b6:wn≤2048:=qg;have HW:=hide hw;obtain rfl:=hdw.symm;clear hw hd;go_upto_region 8 with(first|refine zC ?_|(go_at_call 186;(with_reducible refine uD hM (KF ⟨cx,cy,ce,nx,ny,⟨SA,an,ac⟩,⟨SW,wn,wc⟩,⟨SD,wn,dc⟩,er⟩ fa fd fw _ (by dsimp only;omega) (by dsimp only;omega) rfl (hide (zW hM FA.out)) (hide (zj hM FW.out)) (hide (zW hM FD.out))) ?_ ?_)<;>(clear hM;intro W1 hb hM;first|(have hs:=hide (hb.out (by trivial));clear hb)|clear hb)))
 all_goals first
  |(go_ret;exact⟨_,rfl,⟨⟨qG,qG⟩,fun h=>absurd h qG⟩,hM.below⟩)
  |skip
 have HK:Hid (UU ⟨cx,cy,ce,nx,ny,⟨SA,an,ac⟩,⟨SW,wn,wc⟩,⟨SD,wn,dc⟩,er⟩):=hide ⟨b1,b2,b3,HW.out,HW.out,hs.out.1.1,hs.out.1.2,hs.out.2⟩;clear hs b1 b2 b4 b5 w1 w2 e1;go_wp2_with(first|refine zC ?_);go_loopw [4] (fun s wx=>∃k:Nat,1≤k∧k≤an+1∧s=Iv k∧qF w wx [(gp,[Iv cx,Iv cy,Iv ce,Iv nx,Iv ny,.slice SA an ac,.slice SW wn wc,.slice SD wn dc,Iv er],38)]) (fun s _=>an-(intOf s).toNat)
 case atStart=>exact⟨1,by omega,by omega,rfl,hM⟩
 case round=>
  clear hM;obtain⟨k,hk1,hk,rfl,hM⟩:=hrel;by_cases hlt:k<an
  ·obtain⟨j,hj⟩:∃j,k=j+1:=⟨k-1,qg⟩;obtain⟨b,o,rfl,hc,hi⟩:=FA.out k hlt;have c1:=hM.old hc;have c0:=hM.old (zE FA.out (k:=j) qg).1;have q5:=hM.cell .head 5;simp only[List.getElem?_cons_succ,List.getElem?_cons_zero]at q5;have iw:IntKind.i64.wrap ((k:Int)-1)=(j:Int):=by rw[show(k:Int)-1=j by omega];exact IntWalk.i64_in _ qg
   have hjn:j<an:=qg;have HJ:=hide hj;clear hc hj;go_upto_region 11 with(first|refine zC ?_);go_quiet (fail)
   all_goals
    go_wp2_with fail
    all_goals first
     |(go_ret;exact⟨_,rfl,⟨⟨qG,qG⟩,fun h=>absurd h qG⟩,qF.below (L:=[_]) (by first|exact hM|exact qJ hM|exact zA hM _|exact qJ (qJ hM))⟩)
     |(go_roundw
       case rel=>exact⟨k+1,by omega,by omega,by go_num,by first|exact hM|exact qJ hM|exact zA hM _|exact qJ (qJ hM)⟩
       case measure=>simp[intOf];omega)
  ·go_wp2_with(first|refine zC ?_)
   all_goals(go_ret;exact⟨_,rfl,⟨⟨qG,qG⟩,fun _=>HK.out⟩,hM.below⟩)
theorem iB{n ce P X:Int}(hn:1≤n∧n≤16)(hP:(n-1)*ce=P)(h0:0≤X)(h1:X≤P):(0≤max (min (X/ce) (n-2)) 0∧max (min (X/ce) (n-2)) 0<n)∧(wrap64 (X-wrap64 (max (min (X/ce) (n-2)) 0*ce))≠0→max (min (X/ce) (n-2)) 0+1<n):=by
 by_cases h:n=1
 ·subst h;have hx:X=0:=by simp at hP;omega
  subst hx;have e:max (min ((0:Int)/ce) (1-2)) 0=0:=by rw[Int.zero_ediv];decide
  rw[e];exact⟨qg,fun h=>absurd (by simp[wrap64]) h⟩
 ·generalize X/ce=q;refine⟨qg,fun _=>by omega⟩
theorem Yp(co ce n x:Int)(w:World)(h1: -2000000≤co∧co≤2000000)(h2:1≤ce∧ce≤2000000)(h3:1≤n∧n≤16):Calls Tryz.prog 121 #[Iv co,Iv ce,Iv n,Iv x] w (bR (fun r:Int×Int×Int=> .agg #[Iv r.1,Iv r.2.1,Iv r.2.2]) (fun r=>(0≤r.1∧r.1<n)∧(r.2.1≠0→r.1+1<n)∧qz r.2.1∧qz r.2.2) w):=by
 have hM:=qo w;obtain⟨P,hP⟩:∃P,(n-1)*ce=P:=⟨_,rfl⟩
 have hp:0≤P∧P≤30000000:=by
  have a:=Int.mul_nonneg (show 0≤n-1 by omega) (show 0≤ce by omega);have b:(n-1)*ce≤15*ce:=Int.mul_le_mul_of_nonneg_right qg qg;omega
 have w1:=IntWalk.i64_in (n-1) qg;have w2:IntKind.i64.wrap ((n-1)*ce)=P:=by rw[hP];exact IntWalk.i64_in _ qg
 have w3:=IntWalk.i64_in (co+P) qg;have w4:=IntWalk.i64_in (min (max x co) (co+P)-co) qg;have HS:=hide (iB (X:=min (max x co) (co+P)-co) h3 hP qg qg);have HC:=hide h2;clear hP;go_enter Tryz.func121,Tryz.ntmps121;go_wp2_with(first|(refine qe ?_;clear hM;intro g W hM))
 all_goals(refine' uX hM rfl rfl Tryz.isAgg207 Tryz.sizeOf207 rfl ?_ ?_ ?_;rotate_left 2;(·repeat constructor);(·rfl);(·exact⟨(_,_,_),rfl,⟨HS.out.1,HS.out.2,zi _,⟨by have:=HC.out;dsimp only;omega,by have:=HC.out;dsimp only;omega⟩⟩,hM.below⟩))
theorem iC{x y z nx ny nz:Int}(hx:0≤x∧x<nx)(hy:0≤y∧y<ny)(hz:0≤z∧z<nz)(h1:nx≤16)(h2:ny≤16)(h3:nz≤8):
 (0≤z*ny∧z*ny≤128)∧(0≤(z*ny+y)*nx∧(z*ny+y)*nx≤2304)∧(0≤(z*ny+y)*nx+x∧(z*ny+y)*nx+x<nx*ny*nz):=by
 have a1:=Int.mul_nonneg hz.1 (show 0≤ny by omega);have a2:z*ny≤8*ny:=Int.mul_le_mul_of_nonneg_right qg qg;have a3:z*ny≤(nz-1)*ny:=Int.mul_le_mul_of_nonneg_right qg qg;have a4:(nz-1)*ny=nz*ny-ny:=by rw[Int.sub_mul,Int.one_mul]
 generalize z*ny=A at*;have b1:=Int.mul_nonneg (show 0≤A+y by omega) (show 0≤nx by omega);have b2:(A+y)*nx≤144*nx:=Int.mul_le_mul_of_nonneg_right qg qg;have b3:(A+y)*nx≤(nz*ny-1)*nx:=Int.mul_le_mul_of_nonneg_right qg qg;have b4:(nz*ny-1)*nx=nz*ny*nx-nx:=by rw[Int.sub_mul,Int.one_mul]
 have b5:nz*ny*nx=nx*ny*nz:=by rw[Int.mul_comm nz ny,Int.mul_comm (ny*nz) nx,Int.mul_assoc]
 generalize(A+y)*nx=B at*;omega
theorem Vc(gd:Gd)(x y z:Int)(w:World)(HK:Hid (UU gd))(hx:0≤x∧x<gd.nx)(hy:0≤y∧y<gd.ny)(hz:0≤z∧z<gd.al.n):Calls Tryz.prog 128 #[.agg gd.cells.toArray,Iv x,Iv y,Iv z] w (bR (fun k:Nat=>Iv (k:Int)) (fun k=>k<gd.wi.n∧k<gd.dv.n) w):=by
 have hM:=qo w;have hb:=iC hx hy hz (by have:=HK.out.nx;omega) (by have:=HK.out.ny;omega) (by have:=HK.out.al;omega);have h1:=HK.out.wi;have n1:=HK.out.nx;have n2:=HK.out.ny;have h2:=HK.out.dv;have w1:=IntWalk.i64_in (z*gd.ny) qg;have w2:=IntWalk.i64_in (z*gd.ny+y) qg;have w3:=IntWalk.i64_in ((z*gd.ny+y)*gd.nx) qg;have w4:=IntWalk.i64_in ((z*gd.ny+y)*gd.nx+x) qg;have HB:=hide (And.intro hb (And.intro h1 h2));clear hb h1 h2 hx hy hz n1 n2;go_enter Tryz.func128,Tryz.ntmps128;go_upto_region 1 with(first|(refine qe ?_;clear hM;intro g W hM));dsimp only[Gd.cells,Sl.v]at hM;go_wp2_with(first|refine zC ?_)
 all_goals
  go_ret;have hb:=HB.out;exact⟨((z*gd.ny+y)*gd.nx+x).toNat,qQ (Int.toNat_of_nonneg qg).symm,⟨qg,qg⟩,hM.below⟩
set_option maxRecDepth 100000 in
set_option maxHeartbeats 8000000 in
theorem UV(S:Option Addr)(n c:Nat)(f:Nat→Int)(x:Int)(w:World)(hn:1≤n∧n≤8)(h:Hid (jT w S n f)):Calls Tryz.prog 122 #[.slice S n c,Iv x] w (bR (fun r:Int×Int×Int=> .agg #[Iv r.1,Iv r.2.1,Iv r.2.2]) (fun r=>(0≤r.1∧r.1<n)∧(r.2.1≠0→r.1+1<n)∧qz r.2.1∧qz r.2.2) w):=by
 have hM:=qo w;obtain⟨m,hm⟩:∃m,n=m+1:=⟨n-1,qg⟩;obtain⟨b,o,rfl,h0,_⟩:=h.out 0 qg;have h1:=(zE h.out (k:=m) qg).1;have H0:=hide h0;have H1:=hide h1;have wn:IntKind.i64.wrap ((n:Int)-1)=(m:Int):=by rw[show(n:Int)-1=m by omega];exact IntWalk.i64_in _ qg
 have wm:=IntWalk.i64_in ((m:Int)-1) qg;have hmn:m<n:=qg;have hn0:0<n:=qg;have HM:=hide hm;have HN:=hide hn;clear h0 h1 hm hn;go_enter Tryz.func122,Tryz.ntmps122;go_upto_region 2 with(first|(refine qe ?_;clear hM;intro g W hM));go_cut [1,4] (fun s s4 wx=>∃(y:Int) (g8:Nat),s=Iv y∧s4= .pointer (some ⟨g8,0,none⟩)∧qF w wx [(g8,[Iv 0,Iv 0,Iv 0],207)])
 case first=>
  have c0:=hM.old H0.out;have c1:=hM.old H1.out;rw[Nat.add_zero]at c0;go_quiet (fail)
  all_goals
   go_wp2_with fail
   all_goals
    go_meet;exact⟨_,_,rfl,rfl,by first|exact hM|exact qJ hM|exact zA hM _|exact qJ (qJ hM)⟩
 case rest=>
 clear hM;obtain⟨y,g8,rfl,rfl,hM⟩:=hcut;go_wp2_with fail;go_loopw [6] (fun s wx=>∃k:Nat,(k=0∨k+1≤m)∧s=Iv k∧qF w wx [(g8,[Iv 0,Iv 0,Iv 0],207)]) (fun s _=>m-(intOf s).toNat)
 case atStart=>exact⟨0,.inl rfl,rfl,hM⟩
 case round=>
  clear hM;obtain⟨k,hk,rfl,hM⟩:=hrel;rcases Nat.eq_zero_or_pos m with hm0|hm0
  ·subst hm0;obtain rfl:k=0:=qg;have hN:n=1:=HM.out;subst hN;go_wp2_with(first|(refine qe ?_;clear hM;intro g W hM))
   all_goals(refine' uX hM rfl rfl Tryz.isAgg207 Tryz.sizeOf207 rfl ?_ ?_ ?_;rotate_left 2;(·repeat constructor);(·rfl);(·exact⟨(0,0,1),rfl,⟨⟨qG,qG⟩,fun h=>absurd rfl h,zg,⟨qG,qG⟩⟩,hM.below⟩))
  ·have hkm:k+1≤m:=qg;have wk:IntKind.i64.wrap ((k:Int)+1)=((k+1:Nat):Int):=by rw[IntWalk.i64_in _ (by have:=HM.out;have:=HN.out;omega)];rfl
   have wk2:=IntWalk.i64_in ((k:Int)+1) (by have:=HM.out;have:=HN.out;omega);have hkn:k<n:=by have:=HM.out;omega
   have hkn1:k+1<n:=by have:=HM.out;omega
   have e0:¬m=0:=qg;have e1:(m==0)=false:=by simp;omega
   have e2:((m:Int)==0)=false:=by simp;omega
   have ck:=(zE h.out hkn).1;have ck1:=(zE h.out hkn1).1;have HK:=hide ck;have HK1:=hide ck1;clear ck ck1 hk;go_upto_region 8 with(first|((with_reducible refine lX ?_);refine zD hM rfl (by first|exact rfl|(go_simp;done)) rfl (ur rfl) (HK1.out) ?_))
   all_goals first
    |(go_roundw
      case rel=>exact⟨k+1,.inr qg,by go_num,hM⟩
      case measure=>simp[intOf];omega)
    |skip
   all_goals
    refine qj ?_;refine qA [] hM qM ?_;(clear hM;intro W hM);refine rD 0 ?_;refine rD 1 ?_;refine rD 2 ?_;refine rD 3 ?_;refine dP 4 (v:= .pointer (some ⟨b,o+k,none⟩)) hM ?_ (hv:=by(intro W0;go_simp;first|done|omega|(intro h;exact absurd h qg)));refine qj ?_;refine jk 5 hM (HK.out) ?_;refine qj ?_;refine rD 6 ?_;refine rD 7 ?_;refine rD 8 ?_;refine rD 9 ?_;refine dP 10 (v:= .pointer (some ⟨b,o+(k+1),none⟩)) hM ?_ (hv:=by(intro W0;go_simp;first|done|omega|(intro h;exact absurd h qg)));refine qj ?_;refine jk 11 hM (HK1.out) ?_;refine qj ?_;refine rD 12 ?_;refine rD 13 ?_;refine dP 14 (v:= .pointer (some ⟨b,o+k,none⟩)) hM ?_ (hv:=by(intro W0;go_simp;first|done|omega|(intro h;exact absurd h qg)));refine qj ?_;refine jk 15 hM (HK.out) ?_;refine qj ?_;refine rD 16 ?_;refine rD 17 ?_;refine dC 18 (fun K' hK'=> ?_);refine oS hM ?_;clear hM;intro W hM;refine rK hK' hM ?_;clear hK' K';refine qp qM ?_;go_wp2_with fail
    all_goals
     (refine' uX hM rfl rfl Tryz.isAgg207 Tryz.sizeOf207 rfl ?_ ?_ ?_;rotate_left 2;(·repeat constructor);(·rfl);(·exact⟨((k:Int),IntKind.i64.wrap (y-f k),IntKind.i64.wrap (f (k+1)-f k)),rfl,⟨⟨by dsimp only;omega,by dsimp only;omega⟩,fun _=>by dsimp only;omega,ze _,ze _⟩,hM.below⟩))
end Go.Proofs.YtiegohjobhehcaaGreatDoor
