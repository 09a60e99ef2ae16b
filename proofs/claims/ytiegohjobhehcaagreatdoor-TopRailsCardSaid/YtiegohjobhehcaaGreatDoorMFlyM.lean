/-
  turn.FlyBy for all arguments, by boxes.
-/
import Derived.Test.YtiegohjobhehcaaGreatDoorMLineD
import Derived.Test.YtiegohjobhehcaaGreatDoorMMemD
import Derived.Test.YtiegohjobhehcaaGreatDoorMTurnA
namespace Go.Proofs.YtiegohjobhehcaaGreatDoor
open Go.RowKit
set_option linter.unusedVariables false
set_option linter.unusedSimpArgs false
theorem kO{v0 v1 v2 v3 v4 v5 v6 v7 v8 v9 e0 e:Int}(h:([v0,v1,v2,v3,v4,v5,v6,v7,v8,v9],e0)=(yM,e)):
 (v0=0∧v1=0∧v2=0∧v3=0∧v4=0)∧(v5=0∧v6=0∧v7=0∧v8=0∧v9=0)∧e0=e:=by
 simpa[yM,and_assoc]using h
theorem mW{v0 v1 v2 v3 v4 v5 v6 v7 v8 v9 e0 u0 u1 u2 u3 u4 u5 u6 u7 u8 u9 e:Int}(h:([v0,v1,v2,v3,v4,v5,v6,v7,v8,v9],e0)=([u0,u1,u2,u3,u4,u5,u6,u7,u8,u9],e)):
 (v0=u0∧v1=u1∧v2=u2∧v3=u3∧v4=u4)∧(v5=u5∧v6=u6∧v7=u7∧v8=u8∧v9=u9)∧e0=e:=by
 simpa[and_assoc]using h
set_option maxRecDepth 100000 in
set_option maxHeartbeats 8000000 in
theorem Ny(ax ay bx b_y cx cy r:Int)(w:World)(v0 v1 v2 v3 v4 v5 v6 v7 v8 v9 e0:Int)(hR:Hid (([v0,v1,v2,v3,v4,v5,v6,v7,v8,v9],e0)=bY ax ay bx b_y cx cy r)):
 Calls Tryz.prog 101 #[.agg #[Iv ax,Iv ay],.agg #[Iv bx,Iv b_y],.agg #[Iv cx,Iv cy],Iv r] w fun e w'=>e= .returned (.tuple #[.agg #[Iv v0,Iv v1,Iv v2,Iv v3,Iv v4,Iv v5,Iv v6,Iv v7,Iv v8,Iv v9],Iv e0])∧Below w.heap.size w w':=by
 have PV0:=fun W=>qE ax ay W
 have PV1:=fun W=>qE bx b_y W
 have PV2:=fun W=>qE cx cy W
 have CA:=fun W=>yF ax ay bx b_y W
 have CB:=fun W=>yF bx b_y cx cy W
 have DA:=fun W=>yG ax ay bx b_y W
 have DB:=fun W=>yG bx b_y cx cy W
 obtain⟨p0,hp0⟩:∃p0,qw ax ay=p0:=⟨_,rfl⟩;obtain⟨p1,MT⟩:∃p1,qw bx b_y=p1:=⟨_,rfl⟩;obtain⟨p2,hp2⟩:∃p2,qw cx cy=p2:=⟨_,rfl⟩;rw[hp0]at PV0;rw[MT]at PV1;rw[hp2]at PV2;have HP:=hide (And.intro hp0 (And.intro MT hp2));clear hp0 MT hp2;have hM:=qo w;go_enter Tryz.func101,Tryz.ntmps101;go_upto_region 0 with fail;refine qj ?_;go_cut [8,6,5,4] (fun s8 s6 s5 s4 wx=>∃gO gC gB gA:Nat,s8= .pointer (some ⟨gO,0,none⟩)∧s6= .pointer (some ⟨gC,0,none⟩)∧s5= .pointer (some ⟨gB,0,none⟩)∧s4= .pointer (some ⟨gA,0,none⟩)∧qF w wx ((gO,[Iv 0,Iv 0,Iv 0,Iv 0,Iv 0,Iv 0,Iv 0,Iv 0,Iv 0,Iv 0],189)::[(gC,[Iv cx,Iv cy],26),(gB,[Iv bx,Iv b_y],26),(gA,[Iv ax,Iv ay],26)]))
 case first=>
  go_wp2_with(first|(refine qe ?_;clear hM;intro g W hM))
  all_goals
   go_meet;exact⟨_,_,_,_,rfl,rfl,rfl,rfl,hM⟩
 case rest=>
 clear hM;obtain⟨gO,gC,gB,gA,rfl,rfl,rfl,rfl,hM⟩:=hcut;go_upto_region 1 with(first|(refine qt (PV0 _) ?_;clear hM;intro W1 hM)|(refine qt (PV1 _) ?_;clear hM;intro W1 hM)|(refine qt (PV2 _) ?_;clear hM;intro W1 hM)|refine zC ?_|((with_reducible refine QL ?_);refine tM (fun hg=> ?_) (fun hg=> ?_)<;>simp[go_sem,Region.wanted]at hg)|(refine qe ?_;clear hM;intro g W hM));go_cut [31] (fun s wx=>∃b,s= .bool b∧Hid (b=((!p0|| !p1|| !p2)))∧qF w wx ((gO,[Iv 0,Iv 0,Iv 0,Iv 0,Iv 0,Iv 0,Iv 0,Iv 0,Iv 0,Iv 0],189)::[(gC,[Iv cx,Iv cy],26),(gB,[Iv bx,Iv b_y],26),(gA,[Iv ax,Iv ay],26)]))
 case first=>
  go_wp2_with(first|(refine qt (PV0 _) ?_;clear hM;intro W1 hM)|(refine qt (PV1 _) ?_;clear hM;intro W1 hM)|(refine qt (PV2 _) ?_;clear hM;intro W1 hM)|refine zC ?_|((with_reducible refine QL ?_);refine tM (fun hg=> ?_) (fun hg=> ?_)<;>simp[go_sem,Region.wanted]at hg)|(refine qe ?_;clear hM;intro g W hM))
  all_goals
   go_meet;exact⟨_,rfl,hide (by(subst_vars;(repeat(first|rfl|(cases p0<;>simp_all;done)|(cases p0<;>cases p1<;>cases p2<;>simp_all;done))))),hM⟩
 case rest=>
 clear hM;obtain⟨b1,rfl,hb1,hM⟩:=hcut;rcases hq1:b1 with _|_;rotate_left 1
 ·have hN:(qw ax ay&&qw bx b_y&&qw cx cy)=false:=by
   obtain⟨h1,h2,h3⟩:=HP.out;rw[h1,h2,h3];have:=hb1.out;rw[hq1]at this;revert this;cases p0<;>cases p1<;>cases p2<;>simp
  clear HP hb1;subst hq1;go_wp2_with(first|(refine qe ?_;clear hM;intro g W hM))
  all_goals
   (obtain⟨⟨rfl,rfl,rfl,rfl,rfl⟩,⟨rfl,rfl,rfl,rfl,rfl⟩,rfl⟩:=kO (hR.out.trans (Rx hN));refine' qU hM rfl rfl Tryz.isAgg189 Tryz.sizeOf189 rfl rfl ?_ ?_ ⟨?_,hM.below⟩;rotate_left 2;(·repeat constructor);(·rfl);(·rfl))
 have hN:p0=true∧p1=true∧p2=true:=by
  have:=hb1.out;rw[hq1]at this;revert this;cases p0<;>cases p1<;>cases p2<;>simp
 obtain⟨rfl,rfl,rfl⟩:=hN;have HV:Hid ((qw ax ay&&qw bx b_y&&qw cx cy)=true):=hide (by rw[HP.out.1,HP.out.2.1,HP.out.2.2];rfl);subst hq1;clear hb1 PV0 PV1 PV2;by_cases hr3:r<1∨r>8000000
 ·have hrr:(decide (r<1)=true)∨(decide (r<1)=false∧decide (8000000<r)=true):=by
   by_cases h:r<1
   ·exact .inl (decide_eq_true h)
   ·exact .inr ⟨decide_eq_false h,decide_eq_true qg⟩
  have HR3:=hide hr3;clear hr3;rcases hrr with hrr|⟨hrr,hrr2⟩
  all_goals
   go_wp2_with(first|(refine qe ?_;clear hM;intro g W hM))
   all_goals
    (obtain⟨⟨rfl,rfl,rfl,rfl,rfl⟩,⟨rfl,rfl,rfl,rfl,rfl⟩,rfl⟩:=kO (hR.out.trans (Df HV.out HR3.out));refine' qU hM rfl rfl Tryz.isAgg189 Tryz.sizeOf189 rfl rfl ?_ ?_ ⟨?_,hM.below⟩;rotate_left 2;(·repeat constructor);(·rfl);(·rfl))
 have hr1:¬r<1:=qg;have hr2:¬r>8000000:=qg;have HR3:=hide hr3;obtain⟨x,hx⟩:∃x,(qO ax ay bx b_y).1=x:=⟨_,rfl⟩;obtain⟨y,hy⟩:∃y,(qO bx b_y cx cy).1=y:=⟨_,rfl⟩;obtain⟨u,hu⟩:∃u,(qO ax ay bx b_y).2=u:=⟨_,rfl⟩;obtain⟨v,hv⟩:∃v,(qO bx b_y cx cy).2=v:=⟨_,rfl⟩;obtain⟨k1,hk1⟩:∃k1,zk ax ay bx b_y=k1:=⟨_,rfl⟩;obtain⟨k2,hk2⟩:∃k2,zk bx b_y cx cy=k2:=⟨_,rfl⟩;rw[hx,hu]at CA;rw[hy,hv]at CB;rw[hk1]at DA;rw[hk2]at DB;have bx1:=xX ax ay bx b_y;have by1:=xX bx b_y cx cy;rw[hx]at bx1;rw[hy]at by1;have ix:qz x:=yq;have iy:qz y:=yq;have HC:=hide (And.intro hx (And.intro hy (And.intro hu (And.intro hv (And.intro hk1 hk2)))));clear hx hy hu hv hk1 hk2;have DF:=fun W=>JN x y ix iy W
 have db:=VZ x y;obtain⟨D,hD⟩:∃D,zN x y=D:=⟨_,rfl⟩;rw[hD]at DF db;have AB:=fun W=>kV D yq qg W
 obtain⟨A,hA⟩:∃A:Int,(D.natAbs:Int)=A:=⟨_,rfl⟩;rw[hA]at AB;have bA:0≤A∧A≤64800000:=qg;have HD:=hide (And.intro hD hA);clear hD hA;by_cases hsm:u=0∧v=0;rotate_left 1
 ·have hss:(u !=0)=true∨((u !=0)=false∧(v !=0)=true):=by
   by_cases h:u=0
   ·exact .inr ⟨by simpa using h,by simp;try omega⟩
   ·exact .inl (by simpa using h)
  have hS:Hid ((ax=bx∧ay=b_y)∨(bx=cx∧b_y=cy)):=hide (by
   obtain⟨e1,e2,e3,e4,_⟩:=HC.out;refine Classical.byContradiction fun hn=>hsm ?_
   rw[←e3,←e4,Qk HP.out.1 HP.out.2.1 (fun h=>hn (.inl h)),Qk HP.out.2.1 HP.out.2.2 (fun h=>hn (.inr h))]
   exact⟨rfl,rfl⟩)
  clear hsm;rcases hss with hss|⟨hss,hss2⟩
  all_goals
   go_wp2_with(first|(refine qe ?_;clear hM;intro g W hM)|(refine qt (CA _) ?_;clear hM;intro W1 hM)|(refine qt (CB _) ?_;clear hM;intro W1 hM))
   all_goals
    (obtain⟨⟨rfl,rfl,rfl,rfl,rfl⟩,⟨rfl,rfl,rfl,rfl,rfl⟩,rfl⟩:=kO (hR.out.trans (WJ HV.out HR3.out hS.out));refine' qU hM rfl rfl Tryz.isAgg189 Tryz.sizeOf189 rfl rfl ?_ ?_ ⟨?_,hM.below⟩;rotate_left 2;(·repeat constructor);(·rfl);(·rfl))
 obtain⟨rfl,rfl⟩:=hsm
 have HF:Hid (([v0,v1,v2,v3,v4,v5,v6,v7,v8,v9],e0)=tT bx b_y x y r k1 k2):=hide (by
  obtain⟨e1,e2,e3,e4,e5,e6⟩:=HC.out;have n1:¬(ax=bx∧ay=b_y):=fun h=>by rw[YS HP.out.1 HP.out.2.1 h]at e3;cases e3
  have n2:¬(bx=cx∧b_y=cy):=fun h=>by rw[YS HP.out.2.1 HP.out.2.2 h]at e4;cases e4
  rw[hR.out,Ry HP.out.1 HP.out.2.1 HP.out.2.2 HR3.out n1 n2,e1,e2,e5,e6])
 clear hR HC HV HP;have hR:=HF;clear HF;by_cases hfar:54000000<A
 ·go_wp2_with(first|(refine qe ?_;clear hM;intro g W hM)|(refine qt (CA _) ?_;clear hM;intro W1 hM)|(refine qt (CB _) ?_;clear hM;intro W1 hM)|refine qN (DF _) ?_|refine qN (AB _) ?_)
  all_goals
   (obtain⟨⟨rfl,rfl,rfl,rfl,rfl⟩,⟨rfl,rfl,rfl,rfl,rfl⟩,rfl⟩:=kO (hR.out.trans (sO HD.out.1.symm (by have:=HD.out.2;omega)));refine' qU hM rfl rfl Tryz.isAgg189 Tryz.sizeOf189 rfl rfl ?_ ?_ ⟨?_,hM.below⟩;rotate_left 2;(·repeat constructor);(·rfl);(·rfl))
 have hl:=dW (r:=r) (d:=D) qg qg (by have:=HD.out.2;omega) rfl;rw[HD.out.2]at hl;have MU:=fun W=>Qi r (yJ (A/2)) (vT (A/2)) yq (by have:=Qc (A/2);unfold qz;omega) (by have:=Ja (A/2);unfold qz;omega) W
 have SN:=fun W=>Qg (A/2) yq W
 have CN:=fun W=>Zs (A/2) yq W
 rw[hl.1]at MU;have lb:=hl.2;clear hl;obtain⟨l,hle⟩:∃l,jM r D=l:=⟨_,rfl⟩;rw[hle]at MU lb;generalize yJ (A/2)=sn at*;generalize vT (A/2)=cs at*;have HL:=hide hle;clear hle;by_cases hlm:l>k1∨l>k2
 ·have hss:decide (k1<l)=true∨(decide (k1<l)=false∧decide (k2<l)=true):=by
   by_cases h:k1<l
   ·exact .inl (decide_eq_true h)
   ·exact .inr ⟨decide_eq_false h,decide_eq_true qg⟩
  have HLM:=hide hlm;clear hlm;rcases hss with hss|⟨hss,hss2⟩
  all_goals
   go_wp2_with(first|(refine qe ?_;clear hM;intro g W hM)|(refine qt (CA _) ?_;clear hM;intro W1 hM)|(refine qt (CB _) ?_;clear hM;intro W1 hM)|refine qN (DF _) ?_|refine qN (AB _) ?_|refine qN (SN _) ?_|refine qN (CN _) ?_|(refine Gr (MU _) ?_;clear hM;intro n1 hM)|(refine qt (DA _) ?_;clear hM;intro W1 hM)|(refine qt (DB _) ?_;clear hM;intro W1 hM))
   all_goals
    (obtain⟨⟨rfl,rfl,rfl,rfl,rfl⟩,⟨rfl,rfl,rfl,rfl,rfl⟩,rfl⟩:=kO (hR.out.trans (nV HD.out.1.symm (by have:=HD.out.2;omega) HL.out.symm HLM.out));refine' qU hM rfl rfl Tryz.isAgg189 Tryz.sizeOf189 rfl rfl ?_ ?_ ⟨?_,hM.below⟩;rotate_left 2;(·repeat constructor);(·rfl);(·rfl))
 have hlm1:¬k1<l:=qg;have hlm2:¬k2<l:=qg;have HLM:=hide hlm;clear hlm;have OP:=fun W=>yu x ix W
 have SD:=fun W=>YH 0 0 r 0 D 32400000 qG qG W
 have qb:jU D 32400000=32400000∨jU D 32400000= -32400000:=by unfold jU;split<;>omega
 obtain⟨q,hq⟩:∃q,jU D 32400000=q:=⟨_,rfl⟩;rw[hq]at SD qb;have TA:=fun W=>tE x (-q) ix yq W
 have TB:=fun W=>tE x q ix yq W
 have o1:=QS x 64800000;have o2:=QS x q;obtain⟨sx,sy,e1,hr1'⟩:∃sx sy e1,(sx,sy,e1)=zn bx b_y (jl x 64800000) l:=⟨_,_,_,rfl⟩;obtain⟨ex,ey,e2,hr2'⟩:∃ex ey e2,(ex,ey,e2)=zn bx b_y y l:=⟨_,_,_,rfl⟩;obtain⟨kx,ky,e3,hr3'⟩:∃kx ky e3,(kx,ky,e3)=zn sx sy (jl x q) r:=⟨_,_,_,rfl⟩;have R1:=fun W=>jY bx b_y (jl x 64800000) l yq yq W _ hr1'
 have R2:=fun W=>jY bx b_y y l iy yq W _ hr2'
 have R3:=fun W=>jY sx sy (jl x q) r yq yq W _ hr3'
 have HF:=hide (hR.out.trans (nW (kx:=kx) (ky:=ky) (e3:=e3) HD.out.1.symm (by have:=HD.out.2;omega) HL.out.symm HLM.out hr1' hr2' (by rw[hq];exact hr3')));rw[hq]at HF;clear hR HLM HL HD hr1' hr2' hr3' hq o1 o2;have hR:=HF;clear HF;generalize jl x (-q)=t1 at*;generalize jl x q=t2 at*;generalize jl x 64800000=t3 at*;go_upto_region 19 with(first|(refine qe ?_;clear hM;intro g W hM)|(refine qt (CA _) ?_;clear hM;intro W1 hM)|(refine qt (CB _) ?_;clear hM;intro W1 hM)|refine qN (DF _) ?_|refine qN (AB _) ?_|refine qN (SN _) ?_|refine qN (CN _) ?_|(refine Gr (MU _) ?_;clear hM;intro n1 hM)|(refine qt (DA _) ?_;clear hM;intro W1 hM)|(refine qt (DB _) ?_;clear hM;intro W1 hM)|(refine qt (SD _) ?_;clear hM;intro W1 hM)|refine qN (TA _) ?_);refine qj ?_;refine qA [(gB,[Iv bx,Iv b_y],26)] hM qM ?_;(clear hM;intro W hM);refine rD 0 ?_;refine rD 1 ?_;refine rD 3 ?_;refine dC 2 (fun K' hK'=> ?_);go_wp2_with(first|refine qN (OP _) ?_|(refine qt (R1 _) ?_;clear hM;intro W1 hM));refine rK hK' hM ?_;clear hK' K';refine dC 4 (fun K' hK'=> ?_);go_wp2_with(first|refine qN (OP _) ?_|(refine qt (R1 _) ?_;clear hM;intro W1 hM));refine rK hK' hM ?_;clear hK' K';refine rD 5 ?_;refine rD 6 ?_;refine rD 7 ?_;refine rD 8 ?_;refine dC 9 (fun K' hK'=> ?_);refine oS hM ?_;clear hM;intro W hM;refine rK hK' hM ?_;clear hK' K';refine rD 10 ?_;refine qp qM ?_;by_cases hz1:e1=0;rotate_left 1
 ·have hz1':(e1 !=0)=true:=by simpa using hz1
  obtain⟨⟨rfl,rfl,rfl,rfl,rfl⟩,⟨rfl,rfl,rfl,rfl,rfl⟩,rfl⟩:=kO (hR.out.trans (if_pos hz1));clear hz1;go_wp2_with(first|(refine qe ?_;clear hM;intro g W hM))
  all_goals
   (refine' qU hM rfl rfl Tryz.isAgg189 Tryz.sizeOf189 rfl rfl ?_ ?_ ⟨?_,hM.below⟩;rotate_left 2;(·repeat constructor);(·rfl);(·rfl))
 subst hz1;by_cases hz2:e2=0;rotate_left 1
 ·have hz2':(e2 !=0)=true:=by simpa using hz2
  obtain⟨⟨rfl,rfl,rfl,rfl,rfl⟩,⟨rfl,rfl,rfl,rfl,rfl⟩,rfl⟩:=kO (hR.out.trans ((if_neg jL).trans (if_pos hz2)));clear hz2;go_wp2_with(first|(refine qe ?_;clear hM;intro g W hM)|(refine qt (R2 _) ?_;clear hM;intro W1 hM))
  all_goals
   (refine' qU hM rfl rfl Tryz.isAgg189 Tryz.sizeOf189 rfl rfl ?_ ?_ ⟨?_,hM.below⟩;rotate_left 2;(·repeat constructor);(·rfl);(·rfl))
 subst hz2;go_upto_region 25 with(first|(refine qe ?_;clear hM;intro g W hM)|(refine qt (R2 _) ?_;clear hM;intro W1 hM));refine qj ?_;refine qA [(gB,[Iv bx,Iv b_y],26)] hM qM ?_;(clear hM;intro W hM);refine rD 0 ?_;refine rD 2 ?_;refine rD 3 ?_;refine rD 5 ?_;refine dT 1 4 (fun K' hK'=> ?_) (fun K' hK'=> ?_)
 ·
  first|refine oL hM ?_|refine oM hM ?_
  refine rK hK' hM ?_;clear hK' K';refine dC 4 (fun K' hK'=> ?_);go_wp2_with(first|refine qN (TB _) ?_|(refine qt (R3 _) ?_;clear hM;intro W1 hM));refine rK hK' hM ?_;clear hK' K';refine dC 6 (fun K' hK'=> ?_);go_wp2_with(first|refine qN (TB _) ?_|(refine qt (R3 _) ?_;clear hM;intro W1 hM));refine rK hK' hM ?_;clear hK' K';refine rD 7 ?_;refine rD 8 ?_;refine rD 9 ?_;refine rD 10 ?_;refine rD 11 ?_;refine dC 12 (fun K' hK'=> ?_);refine oS hM ?_;clear hM;intro W hM;refine rK hK' hM ?_;clear hK' K';refine rD 13 ?_;refine qp qM ?_;by_cases hz3:e3=0
  ·subst hz3;obtain⟨⟨rfl,rfl,rfl,rfl,rfl⟩,⟨rfl,rfl,rfl,rfl,rfl⟩,rfl⟩:=mW (hR.out.trans ((if_neg jL).trans ((if_neg jL).trans (if_neg jL))));go_wp2_with(first|(refine qe ?_;clear hM;intro g W hM))
   all_goals
    (refine' qU hM rfl rfl Tryz.isAgg189 Tryz.sizeOf189 rfl rfl ?_ ?_ ⟨?_,hM.below⟩;rotate_left 2;(·repeat constructor);(·rfl);(·rfl))
  ·have hz3':(e3 !=0)=true:=by simpa using hz3
   obtain⟨⟨rfl,rfl,rfl,rfl,rfl⟩,⟨rfl,rfl,rfl,rfl,rfl⟩,rfl⟩:=kO (hR.out.trans ((if_neg jL).trans ((if_neg jL).trans (if_pos hz3))));clear hz3;go_wp2_with(first|(refine qe ?_;clear hM;intro g W hM))
   all_goals
    (refine' qU hM rfl rfl Tryz.isAgg189 Tryz.sizeOf189 rfl rfl ?_ ?_ ⟨?_,hM.below⟩;rotate_left 2;(·repeat constructor);(·rfl);(·rfl))
 ·
  go_wp2_with(first|refine qN (TB _) ?_|(refine qt (R3 _) ?_;clear hM;intro W1 hM));refine rK hK' hM ?_;clear hK' K';refine dC 1 (fun K' hK'=> ?_)
  first|refine oL hM ?_|refine oM hM ?_
  refine rK hK' hM ?_;clear hK' K';refine dC 6 (fun K' hK'=> ?_);go_wp2_with(first|refine qN (TB _) ?_|(refine qt (R3 _) ?_;clear hM;intro W1 hM));refine rK hK' hM ?_;clear hK' K';refine rD 7 ?_;refine rD 8 ?_;refine rD 9 ?_;refine rD 10 ?_;refine rD 11 ?_;refine dC 12 (fun K' hK'=> ?_);refine oS hM ?_;clear hM;intro W hM;refine rK hK' hM ?_;clear hK' K';refine rD 13 ?_;refine qp qM ?_;by_cases hz3:e3=0
  ·subst hz3;obtain⟨⟨rfl,rfl,rfl,rfl,rfl⟩,⟨rfl,rfl,rfl,rfl,rfl⟩,rfl⟩:=mW (hR.out.trans ((if_neg jL).trans ((if_neg jL).trans (if_neg jL))));go_wp2_with(first|(refine qe ?_;clear hM;intro g W hM))
   all_goals
    (refine' qU hM rfl rfl Tryz.isAgg189 Tryz.sizeOf189 rfl rfl ?_ ?_ ⟨?_,hM.below⟩;rotate_left 2;(·repeat constructor);(·rfl);(·rfl))
  ·have hz3':(e3 !=0)=true:=by simpa using hz3
   obtain⟨⟨rfl,rfl,rfl,rfl,rfl⟩,⟨rfl,rfl,rfl,rfl,rfl⟩,rfl⟩:=kO (hR.out.trans ((if_neg jL).trans ((if_neg jL).trans (if_pos hz3))));clear hz3;go_wp2_with(first|(refine qe ?_;clear hM;intro g W hM))
   all_goals
    (refine' qU hM rfl rfl Tryz.isAgg189 Tryz.sizeOf189 rfl rfl ?_ ?_ ⟨?_,hM.below⟩;rotate_left 2;(·repeat constructor);(·rfl);(·rfl))
theorem RJ{cx cy r px py:Int}{right:Bool}(h:(qw cx cy&&qw px py)=false):QX cx cy r px py right=(0,0,1):=by unfold QX;rw[h];rfl
theorem Dr{cx cy r px py:Int}{right:Bool}(h:(qw cx cy&&qw px py)=true)(h2:r<1∨r>8000000):QX cx cy r px py right=(0,0,2):=by unfold QX;rw[h,if_neg jL,if_pos h2]
theorem RL{cx cy r px py:Int}{right:Bool}(h:(qw cx cy&&qw px py)=true)(h2:¬(r<1∨r>8000000))(h3:yH cx cy px py≤r*r):QX cx cy r px py right=(0,0,10):=by unfold QX;rw[h,if_neg jL,if_neg h2,if_pos h3]
theorem Dt{cx cy r px py X Y E:Int}{right:Bool}(h:(qw cx cy&&qw px py)=true)(h2:¬(r<1∨r>8000000))(h3:¬yH cx cy px py≤r*r)(hY:zn cx cy (YB cx cy r px py right) r=(X,Y,E)):QX cx cy r px py right=if E≠0 then(0,0,2)else(X,Y,0):=by
 unfold QX;rw[h,if_neg jL,if_neg h2,if_neg h3,hY]
theorem mh{cx cy r px py:Int}(h:(qw cx cy&&qw px py)=true)(h3:¬yH cx cy px py≤r*r):(qO cx cy px py).1=yQ (px-cx) (py-cy):=by
 unfold qO;rw[h,if_neg jL,if_neg];rintro⟨rfl,rfl⟩;apply h3;unfold yH;rw[Int.sub_self,Int.sub_self];exact yO r
set_option maxRecDepth 100000 in
set_option maxHeartbeats 8000000 in
theorem Ey(cx cy r px py b:Int)(right:Bool)(hb:b=1∧right=false∨b=2∧right=true)(w:World)(v0 v1 e0:Int)(hR:Hid ((v0,v1,e0)=QX cx cy r px py right)):
 Calls Tryz.prog 99 #[.agg #[Iv cx,Iv cy],Iv r,.int .u8 b,.agg #[Iv px,Iv py]] w fun e w'=>e= .returned (.tuple #[.agg #[Iv v0,Iv v1],Iv e0])∧Below w.heap.size w w':=by
 rcases hb with⟨rfl,hb⟩|⟨rfl,hb⟩
 all_goals(
  have hrt:=hide hb;clear hb;have PV0:=fun W=>qE cx cy W
  have PV1:=fun W=>qE px py W
  obtain⟨p0,hp0⟩:∃p0,qw cx cy=p0:=⟨_,rfl⟩;obtain⟨p1,MT⟩:∃p1,qw px py=p1:=⟨_,rfl⟩;rw[hp0]at PV0;rw[MT]at PV1;have HP:=hide (And.intro hp0 MT);clear hp0 MT;have hM:=qo w;go_enter Tryz.func99,Tryz.ntmps99;go_upto_region 0 with fail;refine qj ?_;go_cut [8,7,4] (fun s8 s7 s4 wx=>∃gO gP gC:Nat,s8= .pointer (some ⟨gO,0,none⟩)∧s7= .pointer (some ⟨gP,0,none⟩)∧s4= .pointer (some ⟨gC,0,none⟩)∧qF w wx ((gO,[Iv 0,Iv 0],26)::[(gP,[Iv px,Iv py],26),(gC,[Iv cx,Iv cy],26)]))
  case first=>
   go_wp2_with(first|(refine qe ?_;clear hM;intro g W hM))
   all_goals
    go_meet;exact⟨_,_,_,rfl,rfl,rfl,hM⟩
  case rest=>
  clear hM;obtain⟨gO,gP,gC,rfl,rfl,rfl,hM⟩:=hcut;go_upto_region 1 with(first|(refine qt (PV0 _) ?_;clear hM;intro W1 hM)|(refine qt (PV1 _) ?_;clear hM;intro W1 hM)|refine zC ?_|((with_reducible refine QL ?_);refine tM (fun hg=> ?_) (fun hg=> ?_)<;>simp[go_sem,Region.wanted]at hg)|(refine qe ?_;clear hM;intro g W hM));go_cut [19] (fun s wx=>∃b,s= .bool b∧Hid (b=((!p0|| !p1)))∧qF w wx ((gO,[Iv 0,Iv 0],26)::[(gP,[Iv px,Iv py],26),(gC,[Iv cx,Iv cy],26)]))
  case first=>
   go_wp2_with(first|(refine qt (PV0 _) ?_;clear hM;intro W1 hM)|(refine qt (PV1 _) ?_;clear hM;intro W1 hM)|refine zC ?_|((with_reducible refine QL ?_);refine tM (fun hg=> ?_) (fun hg=> ?_)<;>simp[go_sem,Region.wanted]at hg)|(refine qe ?_;clear hM;intro g W hM))
   all_goals
    go_meet;exact⟨_,rfl,hide (by(subst_vars;(repeat(first|rfl|(cases p0<;>simp_all;done)|(cases p1<;>simp_all;done)|(cases p0<;>cases p1<;>simp_all;done))))),hM⟩
  case rest=>
  clear hM;obtain⟨b1,rfl,hb1,hM⟩:=hcut;rcases hq1:b1 with _|_;rotate_left 1
  ·have hN:(qw cx cy&&qw px py)=false:=by
    obtain⟨h1,h2⟩:=HP.out;rw[h1,h2];have:=hb1.out;rw[hq1]at this;revert this;cases p0<;>cases p1<;>simp
   clear HP hb1;subst hq1;obtain⟨rfl,rfl,rfl⟩:v0=0∧v1=0∧e0=1:=by simpa using hR.out.trans (RJ hN)
   go_wp2_with(first|(refine qe ?_;clear hM;intro g W hM))
   all_goals
    (refine' qU hM rfl rfl Tryz.isAgg26 Tryz.sizeOf26 rfl rfl ?_ ?_ ⟨?_,hM.below⟩;rotate_left 2;(·repeat constructor);(·rfl);(·rfl))
  have hN:p0=true∧p1=true:=by
   have:=hb1.out;rw[hq1]at this;revert this;cases p0<;>cases p1<;>simp
  obtain⟨rfl,rfl⟩:=hN;have HV:Hid ((qw cx cy&&qw px py)=true):=hide (by rw[HP.out.1,HP.out.2];rfl);subst hq1;clear hb1 PV0 PV1;by_cases hr3:r<1∨r>8000000
  ·obtain⟨rfl,rfl,rfl⟩:v0=0∧v1=0∧e0=2:=by simpa using hR.out.trans (Dr HV.out hr3)
   have hrr:(decide (r<1)=true)∨(decide (r<1)=false∧decide (8000000<r)=true):=by
    by_cases h:r<1
    ·exact .inl (decide_eq_true h)
    ·exact .inr ⟨decide_eq_false h,decide_eq_true qg⟩
   clear hr3;rcases hrr with hrr|⟨hrr,hrr2⟩
   all_goals
    go_wp2_with(first|(refine qe ?_;clear hM;intro g W hM))
    all_goals
     (refine' qU hM rfl rfl Tryz.isAgg26 Tryz.sizeOf26 rfl rfl ?_ ?_ ⟨?_,hM.below⟩;rotate_left 2;(·repeat constructor);(·rfl);(·rfl))
  have hr1:¬r<1:=qg;have hr2:¬r>8000000:=qg;have HR3:=hide hr3;have hv0:=jX HP.out.1;have hv1:=jX HP.out.2;have q1:=vh (a:=px-cx) (b:=px-cx) qg qg qg qg;have q2:=vh (a:=py-cy) (b:=py-cy) qg qg qg qg;have q3:=yO (px-cx);have q4:=yO (py-cy);have rr:1≤r*r∧r*r≤64000000000000:=⟨Int.mul_le_mul (show(1:Int)≤r by omega) (show(1:Int)≤r by omega) qG qg,Int.mul_le_mul (show r≤8000000 by omega) (show r≤8000000 by omega) qg qG⟩;have w1:=wi (x:=px-cx) qg qg;have w2:=wi (x:=py-cy) qg qg;have w3:=wi (x:=(px-cx)*(px-cx)) qg qg;have w4:=wi (x:=(py-cy)*(py-cy)) qg qg;have w5:=wi (x:=(px-cx)*(px-cx)+(py-cy)*(py-cy)) qg qg;have w6:=wi (x:=r*r) qg qg;have hd2:yH cx cy px py=(px-cx)*(px-cx)+(py-cy)*(py-cy):=rfl;go_upto_region 5 with(first|(refine qe ?_;clear hM;intro g W hM));refine qj ?_;go_cut [10,11] (fun s10 s11 wx=>s10=Iv (px-cx)∧s11=Iv (py-cy)∧qF w wx ((gO,[Iv 0,Iv 0],26)::[(gP,[Iv px,Iv py],26),(gC,[Iv cx,Iv cy],26)]))
  case first=>
   refine gW hM qM ?_;(clear hM;intro W hM hK);refine kP 0 hM hK ?_;refine qj ?_
   first|refine kL 1 hM hK ?_|refine kM 1 hM hK ?_
   refine qj ?_;refine kP 2 hM hK ?_;refine qj ?_
   first|refine kL 3 hM hK ?_|refine kM 3 hM hK ?_
   refine qj ?_;refine kP 4 hM hK ?_;refine qj ?_;refine kP 5 hM hK ?_;refine qj ?_
   first|refine kL 6 hM hK ?_|refine kM 6 hM hK ?_
   refine qj ?_;refine kP 7 hM hK ?_;refine qj ?_
   first|refine kL 8 hM hK ?_|refine kM 8 hM hK ?_
   refine qj ?_;refine kP 9 hM hK ?_;refine qj ?_;refine kP 10 hM hK ?_;refine qj ?_;refine kP 11 hM hK ?_;refine qj ?_;refine qp qM ?_;go_wp2_with(first|(refine qe ?_;clear hM;intro g W hM))
   all_goals
    go_meet;exact⟨by first|rfl|simp only[w1],by first|rfl|simp only[w2],hM⟩
  case rest=>
  clear hM;obtain⟨rfl,rfl,hM⟩:=hcut;by_cases h3:yH cx cy px py≤r*r
  ·obtain⟨rfl,rfl,rfl⟩:v0=0∧v1=0∧e0=10:=by simpa using hR.out.trans (RL HV.out HR3.out h3)
   rw[hd2]at h3;clear hd2 q1 q2 q3 q4 hv0 hv1;generalize px-cx=dx at*;generalize py-cy=dy at*;go_wp2_with(first|(refine qe ?_;clear hM;intro g W hM))
   all_goals
    (refine' qU hM rfl rfl Tryz.isAgg26 Tryz.sizeOf26 rfl rfl ?_ ?_ ⟨?_,hM.below⟩;rotate_left 2;(·repeat constructor);(·rfl);(·rfl))
  have ce:=mh HV.out h3;have H3:=hide h3;rw[hd2]at h3;have cbd:=gI (px-cx) (py-cy);have CS:=fun W=>yF cx cy px py W
  rw[ce]at CS;obtain⟨ue,hue⟩:∃ue,(qO cx cy px py).2=ue:=⟨_,rfl⟩;rw[hue]at CS;clear hue ce
  have hk:((kE ((px-cx)*(px-cx)+(py-cy)*(py-cy)-r*r).toNat:Nat):Int)≤8000000:=dG qg (by
   have:=JG ((px-cx)*(px-cx)+(py-cy)*(py-cy)-r*r) qg
   omega)
  have SQ:=fun W=>JT ((px-cx)*(px-cx)+(py-cy)*(py-cy)-r*r) yq W
  have w7:=wi (x:=(px-cx)*(px-cx)+(py-cy)*(py-cy)-r*r) qg qg;have hk0:0≤((kE ((px-cx)*(px-cx)+(py-cy)*(py-cy)-r*r).toNat:Nat):Int):=qg;obtain⟨k,hkk⟩:∃k:Int,((kE ((px-cx)*(px-cx)+(py-cy)*(py-cy)-r*r).toNat:Nat):Int)=k:=⟨_,rfl⟩;rw[hkk]at SQ hk hk0;have AT:=fun W=>Yz k r qg qg qg qg qg W
  have zb:=gI k r;obtain⟨z,hz⟩:∃z,yQ k r=z:=⟨_,rfl⟩;obtain⟨y,hy⟩:∃y,yQ (px-cx) (py-cy)=y:=⟨_,rfl⟩;rw[hz]at AT zb;rw[hy]at CS cbd
  have HT:=hide (show YB cx cy r px py right=jl y (if right then-z else z) by
   unfold YB
   rw[hy,hd2,hkk,hz])
  clear hkk hz hy hd2 q1 q2 q3 q4 hv0 hv1;generalize px-cx=dx at*;generalize py-cy=dy at*;obtain⟨u,hu⟩:∃u,(if right then-z else z)=u:=⟨_,rfl⟩;rw[hu]at HT;have ub: -129600000≤u∧u≤129600000:=by rw[←hu];split<;>omega
  have TN:=fun W=>tE y u yq yq W
  have tb:=QS y u;obtain⟨D,hD⟩:∃D,jl y u=D:=⟨_,rfl⟩;rw[hD]at TN tb HT;obtain⟨kx,ky,E,hY0⟩:∃kx ky E,zn cx cy D r=(kx,ky,E):=⟨_,_,_,rfl⟩;have RY:=fun W=>jY cx cy D r yq yq W _ hY0.symm
  have HR:=hide (hR.out.trans (Dt (X:=kx) (Y:=ky) (E:=E) HV.out HR3.out H3.out (by rw[HT.out];exact hY0)));clear hR HV H3 HT hY0 hD HP;have hR:=HR;clear HR;rw[hrt.out]at hu;simp only[if_true,if_false,Bool.false_eq_true]at hu;subst hu;go_upto_region 13 with(first|(refine qe ?_;clear hM;intro g W hM)|(refine qt (CS _) ?_;clear hM;intro W1 hM)|(refine Gr (SQ _) ?_;clear hM;intro n1 hM)|(refine qt (AT _) ?_;clear hM;intro W1 hM));refine qj ?_;go_cut [17,18] (fun s17 s18 wx=>∃g17:Nat,s17= .pointer (some ⟨g17,0,none⟩)∧s18=Iv E∧qF w wx ((g17,[Iv kx,Iv ky],26)::((gO,[Iv 0,Iv 0],26)::[(gP,[Iv px,Iv py],26),(gC,[Iv cx,Iv cy],26)])))
  case first=>
   refine qA [(gC,[Iv cx,Iv cy],26)] hM qM ?_;(clear hM;intro W hM);refine rD 0 ?_;refine rD 1 ?_;refine rD 2 ?_;refine rD 4 ?_;refine dT 3 9 (fun K' hK'=> ?_) (fun K' hK'=> ?_)
   ·
    go_wp2_with(first|refine qN (TN _) ?_|(refine qt (RY _) ?_;clear hM;intro W1 hM));refine rK hK' hM ?_;clear hK' K';refine dT 5 9 (fun K' hK'=> ?_) (fun K' hK'=> ?_)
    ·
     go_wp2_with(first|refine qN (TN _) ?_|(refine qt (RY _) ?_;clear hM;intro W1 hM));refine rK hK' hM ?_;clear hK' K';refine rD 6 ?_;refine rD 7 ?_;refine rD 8 ?_;refine dC 9 (fun K' hK'=> ?_);refine oN hM ?_;clear hM;intro g17 W hM;refine rK hK' hM ?_;clear hK' K';refine dC 10 (fun K' hK'=> ?_);refine oS hM ?_;clear hM;intro W hM;refine rK hK' hM ?_;clear hK' K';refine rD 11 ?_;refine qp qM ?_;go_wp2_with fail
     all_goals
      go_meet;exact⟨_,rfl,rfl,hM⟩
    ·
     refine oN hM ?_;clear hM;intro g17 W hM;refine rK hK' hM ?_;clear hK' K';refine dC 5 (fun K' hK'=> ?_);go_wp2_with(first|refine qN (TN _) ?_|(refine qt (RY _) ?_;clear hM;intro W1 hM));refine rK hK' hM ?_;clear hK' K';refine rD 6 ?_;refine rD 7 ?_;refine rD 8 ?_;refine dC 10 (fun K' hK'=> ?_);refine oS hM ?_;clear hM;intro W hM;refine rK hK' hM ?_;clear hK' K';refine rD 11 ?_;refine qp qM ?_;go_wp2_with fail
     all_goals
      go_meet;exact⟨_,rfl,rfl,hM⟩
   ·
    refine oN hM ?_;clear hM;intro g17 W hM;refine rK hK' hM ?_;clear hK' K';refine dC 3 (fun K' hK'=> ?_);go_wp2_with(first|refine qN (TN _) ?_|(refine qt (RY _) ?_;clear hM;intro W1 hM));refine rK hK' hM ?_;clear hK' K';refine dC 5 (fun K' hK'=> ?_);go_wp2_with(first|refine qN (TN _) ?_|(refine qt (RY _) ?_;clear hM;intro W1 hM));refine rK hK' hM ?_;clear hK' K';refine rD 6 ?_;refine rD 7 ?_;refine rD 8 ?_;refine dC 10 (fun K' hK'=> ?_);refine oS hM ?_;clear hM;intro W hM;refine rK hK' hM ?_;clear hK' K';refine rD 11 ?_;refine qp qM ?_;go_wp2_with fail
    all_goals
     go_meet;exact⟨_,rfl,rfl,hM⟩
  case rest=>
  clear hM;obtain⟨g17,rfl,rfl,hM⟩:=hcut;by_cases hE:E=0
  ·subst hE;obtain⟨rfl,rfl,rfl⟩:v0=kx∧v1=ky∧e0=0:=by simpa using hR.out
   go_wp2_with(first|(refine qe ?_;clear hM;intro g W hM))
   all_goals
    (refine' qU hM rfl rfl Tryz.isAgg26 Tryz.sizeOf26 rfl rfl ?_ ?_ ⟨?_,hM.below⟩;rotate_left 2;(·repeat constructor);(·rfl);(·rfl))
  ·obtain⟨rfl,rfl,rfl⟩:v0=0∧v1=0∧e0=2:=by simpa[hE]using hR.out
   have hE':(E !=0)=true:=by simpa using hE
   clear hE;go_wp2_with(first|(refine qe ?_;clear hM;intro g W hM))
   all_goals
    (refine' qU hM rfl rfl Tryz.isAgg26 Tryz.sizeOf26 rfl rfl ?_ ?_ ⟨?_,hM.below⟩;rotate_left 2;(·repeat constructor);(·rfl);(·rfl))
  )
end Go.Proofs.YtiegohjobhehcaaGreatDoor
