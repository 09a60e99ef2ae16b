/-
  The walks of Around, by boxes.
-/
import Derived.Test.YtiegohjobhehcaaGreatDoorMLineD
import Derived.Test.YtiegohjobhehcaaGreatDoorMMem
namespace Go.Proofs.YtiegohjobhehcaaGreatDoor
open Go.RowKit
set_option linter.unusedVariables false
set_option linter.unusedSimpArgs false
theorem cQ{ax ay cx cy bx b_y:Int}{right:Bool}(h:(qw ax ay&&qw cx cy&&qw bx b_y)=false):yN ax ay cx cy bx b_y right=(YC,1):=by unfold yN;rw[h];rfl
theorem wh{ax ay cx cy bx b_y:Int}{right:Bool}(h:(qw ax ay&&qw cx cy&&qw bx b_y)=true)(h2:zk cx cy ax ay=0∨zk cx cy bx b_y=0∨zk cx cy ax ay-zk cx cy bx b_y>8∨zk cx cy bx b_y-zk cx cy ax ay>8):yN ax ay cx cy bx b_y right=(YC,10):=by
 unfold yN;rw[h,if_neg jL,if_pos h2]
theorem KM(ax ay:Int):zk ax ay ax ay=0:=by
 unfold zk yH;rw[Int.sub_self,Int.sub_self];split
 ·decide+kernel
 ·rfl
theorem cR{ax ay cx cy bx b_y:Int}{right:Bool}(h:(qw ax ay&&qw cx cy&&qw bx b_y)=true)(h2:¬(zk cx cy ax ay=0∨zk cx cy bx b_y=0∨zk cx cy ax ay-zk cx cy bx b_y>8∨zk cx cy bx b_y-zk cx cy ax ay>8)):
 yN ax ay cx cy bx b_y right=([cx,cy,zk cx cy ax ay,(qO cx cy ax ay).1,JV right (qO cx cy ax ay).1 (qO cx cy bx b_y).1],0):=by
 have hv:(qw ax ay=true∧qw cx cy=true)∧qw bx b_y=true:=by simpa using h
 have e1:¬(cx=ax∧cy=ay):=fun e=>h2 (.inl (by rw[←e.1,←e.2];exact KM cx cy))
 have e2:¬(cx=bx∧cy=b_y):=fun e=>h2 (.inr (.inl (by rw[←e.1,←e.2];exact KM cx cy)))
 unfold yN;rw[h,if_neg jL,if_neg h2];unfold qO;rw[hv.1.1,hv.1.2,hv.2,if_neg jL,if_neg e1,if_neg jL,if_neg e2]
theorem wl(right:Bool)(x y:Int):JV right x y=if right=true then(if bf right x y=0 then 129600000 else bf right x y)else-(if bf right x y=0 then 129600000 else bf right x y):=by
 rcases right with _|_<;>rfl
theorem Zb(ax ay bx b_y:Int):qz (qO ax ay bx b_y).1:=by
 have h:=xX ax ay bx b_y;unfold qz;omega
set_option maxRecDepth 100000 in
set_option maxHeartbeats 8000000 in
theorem Vu(ax ay cx cy bx b_y b:Int)(right:Bool)(hb:b=1∧right=false∨b=2∧right=true)(w:World)(v0 v1 v2 v3 v4 e0:Int)(hR:([v0,v1,v2,v3,v4],e0)=yN ax ay cx cy bx b_y right):
 Calls Tryz.prog 100 #[.agg #[Iv ax,Iv ay],.agg #[Iv cx,Iv cy],.agg #[Iv bx,Iv b_y],.int .u8 b] w fun e w'=>e= .returned (.tuple #[.agg #[Iv v0,Iv v1,Iv v2,Iv v3,Iv v4],Iv e0])∧Below w.heap.size w w':=by
 have SWF:∀(x y:Int),qz x→qz y→∀W,Calls Tryz.prog 168 #[Iv x,Iv y,.int .u8 b] W fun e w'=>e= .returned (Iv (bf right x y))∧W=w':=by
  rcases hb with⟨rfl,rfl⟩|⟨rfl,rfl⟩
  ·exact fun x y hx hy W=>nE x y hx hy W
  ·exact fun x y hx hy W=>Tt x y hx hy W
 by_cases hv:(qw ax ay&&qw cx cy&&qw bx b_y)=false
 ·have hcs:qw ax ay=false∨(qw ax ay=true∧qw cx cy=false)∨(qw ax ay=true∧qw cx cy=true∧qw bx b_y=false):=by
   revert hv;rcases qw ax ay with _|_<;>rcases qw cx cy with _|_<;>rcases qw bx b_y with _|_<;>simp
  rw[cQ hv]at hR;obtain⟨⟨rfl,rfl,rfl,rfl,rfl⟩,rfl⟩:(v0=0∧v1=0∧v2=0∧v3=0∧v4=0)∧e0=1:=by simpa[YC]using hR
  clear hR hv;have PV0:=fun W=>qE ax ay W
  have PV1:=fun W=>qE cx cy W
  have PV2:=fun W=>qE bx b_y W
  clear SWF;rcases hb with⟨rfl,rfl⟩|⟨rfl,rfl⟩<;>rcases hcs with h0|⟨h0,h1⟩|⟨h0,h1,h2⟩
  all_goals(
   rw[h0]at PV0
   try rw[h1]at PV1
   try rw[h2]at PV2
   clear h0
   try clear h1
   try clear h2
   have hM:=qo w;go_enter Tryz.func100,Tryz.ntmps100;go_wp2_with(first|(refine qe ?_;clear hM;intro g W hM)|(refine qt (PV0 _) ?_;clear hM;intro W1 hM)|(refine qt (PV1 _) ?_;clear hM;intro W1 hM)|(refine qt (PV2 _) ?_;clear hM;intro W1 hM))
   all_goals
    (refine' qU hM rfl rfl Tryz.isAgg51 Tryz.sizeOf51 rfl rfl ?_ ?_ ⟨?_,hM.below⟩;rotate_left 2;(·repeat constructor);(·rfl);(·rfl))
   )
 have h3:(qw ax ay&&qw cx cy&&qw bx b_y)=true:=(by revert hv;rcases(qw ax ay&&qw cx cy&&qw bx b_y)with _|_<;>simp);clear hv;have h4:(qw ax ay=true∧qw cx cy=true)∧qw bx b_y=true:=by simpa using h3
 have PV0:=fun W=>qE ax ay W
 have PV1:=fun W=>qE cx cy W
 have PV2:=fun W=>qE bx b_y W
 rw[h4.1.1]at PV0;rw[h4.1.2]at PV1;rw[h4.2]at PV2;clear h4;have DA:=fun W=>yG cx cy ax ay W
 have DB:=fun W=>yG cx cy bx b_y W
 have bA:=bD cx cy ax ay;have bB:=bD cx cy bx b_y;have XA:=fun W=>yF cx cy ax ay W
 have XB:=fun W=>yF cx cy bx b_y W
 by_cases hf:zk cx cy ax ay=0∨zk cx cy bx b_y=0∨zk cx cy ax ay-zk cx cy bx b_y>8∨zk cx cy bx b_y-zk cx cy ax ay>8
 ·rw[wh h3 hf]at hR;obtain⟨⟨rfl,rfl,rfl,rfl,rfl⟩,rfl⟩:(v0=0∧v1=0∧v2=0∧v3=0∧v4=0)∧e0=10:=by simpa[YC]using hR
  clear hR h3 XA XB;generalize zk cx cy ax ay=m at*;generalize zk cx cy bx b_y=n at*;have AB:=fun W=>kV (m-n) yq qg W
  obtain⟨k,hk⟩:∃k:Int,((m-n).natAbs:Int)=k:=⟨_,rfl⟩;rw[hk]at AB
  have hcs:(m==0)=true∨(m==0)=false∧(n==0)=true∨(m==0)=false∧(n==0)=false∧8<k:=by
   rcases hm:(m==0)with _|_
   ·rcases hn:(n==0)with _|_
    ·have m0:m≠0:=by simpa using hm
     have n0:n≠0:=by simpa using hn
     exact .inr (.inr ⟨rfl,rfl,qg⟩)
    ·exact .inr (.inl ⟨rfl,rfl⟩)
   ·exact .inl rfl
  clear hk hf;clear SWF;rcases hb with⟨rfl,rfl⟩|⟨rfl,rfl⟩<;>rcases hcs with z1|⟨z1,z2⟩|⟨z1,z2,z3⟩
  all_goals(
   have hM:=qo w;go_enter Tryz.func100,Tryz.ntmps100;go_upto_region 3 with(first|(refine qe ?_;clear hM;intro g W hM)|(refine qt (PV0 _) ?_;clear hM;intro W1 hM)|(refine qt (PV1 _) ?_;clear hM;intro W1 hM)|(refine qt (PV2 _) ?_;clear hM;intro W1 hM)|(refine qt (XA _) ?_;clear hM;intro W1 hM)|(refine qt (XB _) ?_;clear hM;intro W1 hM)|refine qN (SW _) ?_|refine qN (AB _) ?_);refine gW hM qM ?_;(clear hM;intro W hM hK)
   first|refine kL 0 hM hK ?_|refine kM 0 hM hK ?_
   refine qj ?_
   first|refine kL 1 hM hK ?_|refine kM 1 hM hK ?_
   refine qj ?_
   first|refine kL 3 hM hK ?_|refine kM 3 hM hK ?_
   refine qj ?_
   first|refine kL 4 hM hK ?_|refine kM 4 hM hK ?_
   refine qj ?_;refine kT (i:=2) (ym rfl) qM rfl (fun K' hK'=> ?_);go_wp2_with(first|(refine qt (DA _) ?_;clear hM;intro W1 hM)|(refine qt (DB _) ?_;clear hM;intro W1 hM));refine hK'.out _ _ (jh hM hK) ?_;clear hK' K';refine qj ?_;refine kT (i:=5) (ym rfl) qM rfl (fun K' hK'=> ?_);go_wp2_with(first|(refine qt (DA _) ?_;clear hM;intro W1 hM)|(refine qt (DB _) ?_;clear hM;intro W1 hM));refine hK'.out _ _ (jh hM hK) ?_;clear hK' K';refine qj ?_;refine kP 6 hM hK ?_;refine qj ?_;refine kP 7 hM hK ?_;refine qj ?_;refine qp qM ?_;go_wp2_with(first|(refine qe ?_;clear hM;intro g W hM)|(refine qt (PV0 _) ?_;clear hM;intro W1 hM)|(refine qt (PV1 _) ?_;clear hM;intro W1 hM)|(refine qt (PV2 _) ?_;clear hM;intro W1 hM)|(refine qt (XA _) ?_;clear hM;intro W1 hM)|(refine qt (XB _) ?_;clear hM;intro W1 hM)|refine qN (SW _) ?_|refine qN (AB _) ?_)
   all_goals
    (refine' qU hM rfl rfl Tryz.isAgg51 Tryz.sizeOf51 rfl rfl ?_ ?_ ⟨?_,hM.below⟩;rotate_left 2;(·repeat constructor);(·rfl);(·rfl))
   )
 rw[cR h3 hf]at hR;clear h3;have cA:=Zb cx cy ax ay;have cB:=Zb cx cy bx b_y;obtain⟨⟨rfl,rfl,rfl,rfl,rfl⟩,rfl⟩:(cx=v0∧cy=v1∧zk cx cy ax ay=v2∧(qO cx cy ax ay).1=v3∧JV right (qO cx cy ax ay).1 (qO cx cy bx b_y).1=v4)∧0=e0:=by simpa using hR.symm
 clear hR;obtain⟨v4,hv4⟩:∃v4,JV right (qO cx cy ax ay).1 (qO cx cy bx b_y).1=v4:=⟨_,rfl⟩;rw[hv4];rw[wl]at hv4;generalize zk cx cy ax ay=m at*;generalize zk cx cy bx b_y=n at*;generalize qO cx cy ax ay=q1 at*;generalize qO cx cy bx b_y=q2 at*;obtain⟨x,qe1⟩:=q1;obtain⟨y,qe2⟩:=q2;dsimp only at*;have AB:=fun W=>kV (m-n) yq qg W
 have z1:(m==0)=false:=by simp;omega
 have z2:(n==0)=false:=by simp;omega
 have z3:((m-n).natAbs:Int)≤8:=qg;obtain⟨k,hk⟩:∃k:Int,((m-n).natAbs:Int)=k:=⟨_,rfl⟩;rw[hk]at AB z3;have SW:=fun W=>SWF x y cA cB W
 have sb:0≤bf right x y∧bf right x y<129600000:=by
  unfold bf;split<;>exact jP _
 generalize bf right x y=s at*;clear hk hf
 have hs:b=1∧(s==0)=true∧v4= -129600000∨b=1∧(s==0)=false∧v4= -s∨b=2∧(s==0)=true∧v4=129600000∨b=2∧(s==0)=false∧v4=s:=by
  subst hv4;rcases hb with⟨rfl,rfl⟩|⟨rfl,rfl⟩
  ·by_cases h:s=0
   ·exact .inl ⟨rfl,by simpa using h,by simp[h]⟩
   ·exact .inr (.inl ⟨rfl,by simpa using h,by simp[h]⟩)
  ·by_cases h:s=0
   ·exact .inr (.inr (.inl ⟨rfl,by simpa using h,by simp[h]⟩))
   ·exact .inr (.inr (.inr ⟨rfl,by simpa using h,by simp[h]⟩))
 clear hv4 SWF hb;rcases hs with⟨rfl,s1,rfl⟩|⟨rfl,s1,rfl⟩|⟨rfl,s1,rfl⟩|⟨rfl,s1,rfl⟩
 all_goals(
  have hM:=qo w;go_enter Tryz.func100,Tryz.ntmps100;go_upto_region 3 with(first|(refine qe ?_;clear hM;intro g W hM)|(refine qt (PV0 _) ?_;clear hM;intro W1 hM)|(refine qt (PV1 _) ?_;clear hM;intro W1 hM)|(refine qt (PV2 _) ?_;clear hM;intro W1 hM)|(refine qt (XA _) ?_;clear hM;intro W1 hM)|(refine qt (XB _) ?_;clear hM;intro W1 hM)|refine qN (SW _) ?_|refine qN (AB _) ?_);refine gW hM qM ?_;(clear hM;intro W hM hK)
  first|refine kL 0 hM hK ?_|refine kM 0 hM hK ?_
  refine qj ?_
  first|refine kL 1 hM hK ?_|refine kM 1 hM hK ?_
  refine qj ?_
  first|refine kL 3 hM hK ?_|refine kM 3 hM hK ?_
  refine qj ?_
  first|refine kL 4 hM hK ?_|refine kM 4 hM hK ?_
  refine qj ?_;refine kT (i:=2) (ym rfl) qM rfl (fun K' hK'=> ?_);go_wp2_with(first|(refine qt (DA _) ?_;clear hM;intro W1 hM)|(refine qt (DB _) ?_;clear hM;intro W1 hM));refine hK'.out _ _ (jh hM hK) ?_;clear hK' K';refine qj ?_;refine kT (i:=5) (ym rfl) qM rfl (fun K' hK'=> ?_);go_wp2_with(first|(refine qt (DA _) ?_;clear hM;intro W1 hM)|(refine qt (DB _) ?_;clear hM;intro W1 hM));refine hK'.out _ _ (jh hM hK) ?_;clear hK' K';refine qj ?_;refine kP 6 hM hK ?_;refine qj ?_;refine kP 7 hM hK ?_;refine qj ?_;refine qp qM ?_;go_wp2_with(first|(refine qe ?_;clear hM;intro g W hM)|(refine qt (PV0 _) ?_;clear hM;intro W1 hM)|(refine qt (PV1 _) ?_;clear hM;intro W1 hM)|(refine qt (PV2 _) ?_;clear hM;intro W1 hM)|(refine qt (XA _) ?_;clear hM;intro W1 hM)|(refine qt (XB _) ?_;clear hM;intro W1 hM)|refine qN (SW _) ?_|refine qN (AB _) ?_)
  all_goals
   (refine' qU hM rfl rfl Tryz.isAgg51 Tryz.sizeOf51 rfl rfl ?_ ?_ ⟨?_,hM.below⟩;rotate_left 2;(·repeat constructor);(·rfl);(·rfl))
  )
theorem aC(ax ay cx cy bx b_y:Int)(w:World)(v0 v1 v2 v3 v4 e0:Int)(hR:([v0,v1,v2,v3,v4],e0)=yN ax ay cx cy bx b_y false):
 Calls Tryz.prog 100 #[.agg #[Iv ax,Iv ay],.agg #[Iv cx,Iv cy],.agg #[Iv bx,Iv b_y],.int .u8 1] w fun e w'=>e= .returned (.tuple #[.agg #[Iv v0,Iv v1,Iv v2,Iv v3,Iv v4],Iv e0])∧Below w.heap.size w w':=
 Vu ax ay cx cy bx b_y 1 false (.inl ⟨rfl,rfl⟩) w v0 v1 v2 v3 v4 e0 hR
theorem aD(ax ay cx cy bx b_y:Int)(w:World)(v0 v1 v2 v3 v4 e0:Int)(hR:([v0,v1,v2,v3,v4],e0)=yN ax ay cx cy bx b_y true):
 Calls Tryz.prog 100 #[.agg #[Iv ax,Iv ay],.agg #[Iv cx,Iv cy],.agg #[Iv bx,Iv b_y],.int .u8 2] w fun e w'=>e= .returned (.tuple #[.agg #[Iv v0,Iv v1,Iv v2,Iv v3,Iv v4],Iv e0])∧Below w.heap.size w w':=
 Vu ax ay cx cy bx b_y 2 true (.inr ⟨rfl,rfl⟩) w v0 v1 v2 v3 v4 e0 hR
end Go.Proofs.YtiegohjobhehcaaGreatDoor
