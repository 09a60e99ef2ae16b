/-
  turn.FlyBy for all arguments, by boxes.
-/
import Derived.Test.YtcgpbnlhnafhjaaGreatDoorMLineD
import Derived.Test.YtcgpbnlhnafhjaaGreatDoorMMemD
import Derived.Test.YtcgpbnlhnafhjaaGreatDoorMTurnA
namespace Go.Proofs.YtcgpbnlhnafhjaaGreatDoor
open Go.RowKit
set_option linter.unusedVariables false
set_option linter.unusedSimpArgs false
theorem yj{v0 v1 v2 v3 v4 v5 v6 v7 v8 v9 e0 e:Int}(h:([v0,v1,v2,v3,v4,v5,v6,v7,v8,v9],e0)=(yJ,e)):
 (v0=0∧v1=0∧v2=0∧v3=0∧v4=0)∧(v5=0∧v6=0∧v7=0∧v8=0∧v9=0)∧e0=e:=by
 simpa[yJ,and_assoc]using h
theorem UU{v0 v1 v2 v3 v4 v5 v6 v7 v8 v9 e0 u0 u1 u2 u3 u4 u5 u6 u7 u8 u9 e:Int}(h:([v0,v1,v2,v3,v4,v5,v6,v7,v8,v9],e0)=([u0,u1,u2,u3,u4,u5,u6,u7,u8,u9],e)):
 (v0=u0∧v1=u1∧v2=u2∧v3=u3∧v4=u4)∧(v5=u5∧v6=u6∧v7=u7∧v8=u8∧v9=u9)∧e0=e:=by
 simpa[and_assoc]using h
set_option maxRecDepth 100000 in
set_option maxHeartbeats 8000000 in
theorem lu(ax ay bx b_y cx cy r:Int)(w:World)(v0 v1 v2 v3 v4 v5 v6 v7 v8 v9 e0:Int)(hR:Hid (([v0,v1,v2,v3,v4,v5,v6,v7,v8,v9],e0)=bg ax ay bx b_y cx cy r)):
 Calls Tryz.prog 102 #[.agg #[Iv ax,Iv ay],.agg #[Iv bx,Iv b_y],.agg #[Iv cx,Iv cy],Iv r] w fun e w'=>e= .returned (.tuple #[.agg #[Iv v0,Iv v1,Iv v2,Iv v3,Iv v4,Iv v5,Iv v6,Iv v7,Iv v8,Iv v9],Iv e0])∧Below w.heap.size w w':=by
 have PV0:=fun W=>qQ ax ay W
 have PV1:=fun W=>qQ bx b_y W
 have PV2:=fun W=>qQ cx cy W
 have CA:=fun W=>vk ax ay bx b_y W
 have CB:=fun W=>vk bx b_y cx cy W
 have DA:=fun W=>yE ax ay bx b_y W
 have DB:=fun W=>yE bx b_y cx cy W
 obtain⟨p0,hp0⟩:∃p0,qw ax ay=p0:=⟨_,rfl⟩;obtain⟨p1,BU⟩:∃p1,qw bx b_y=p1:=⟨_,rfl⟩;obtain⟨p2,hp2⟩:∃p2,qw cx cy=p2:=⟨_,rfl⟩;rw[hp0]at PV0;rw[BU]at PV1;rw[hp2]at PV2;have HP:=hide (And.intro hp0 (And.intro BU hp2));clear hp0 BU hp2;have hM:=qE w;go_enter Tryz.func102,Tryz.ntmps102;go_upto_region 0 with fail;refine qu ?_;go_cut [8,6,5,4] (fun s8 s6 s5 s4 wx=>∃gO gC gB gA:Nat,s8= .pointer (some ⟨gO,0,none⟩)∧s6= .pointer (some ⟨gC,0,none⟩)∧s5= .pointer (some ⟨gB,0,none⟩)∧s4= .pointer (some ⟨gA,0,none⟩)∧qU w wx ((gO,[Iv 0,Iv 0,Iv 0,Iv 0,Iv 0,Iv 0,Iv 0,Iv 0,Iv 0,Iv 0],138)::[(gC,[Iv cx,Iv cy],26),(gB,[Iv bx,Iv b_y],26),(gA,[Iv ax,Iv ay],26)]))
 case first=>
  go_wp2_with(first|(refine DU ?_;clear hM;intro g W hM))
  all_goals
   go_meet;exact⟨_,_,_,_,rfl,rfl,rfl,rfl,hM⟩
 case rest=>
 clear hM;obtain⟨gO,gC,gB,gA,rfl,rfl,rfl,rfl,hM⟩:=hcut;go_upto_region 1 with(first|(refine qf (PV0 _) ?_;clear hM;intro W1 hM)|(refine qf (PV1 _) ?_;clear hM;intro W1 hM)|(refine qf (PV2 _) ?_;clear hM;intro W1 hM)|refine qg ?_|((with_reducible refine kq ?_);refine yP (fun hg=> ?_) (fun hg=> ?_)<;>simp[go_sem,Region.wanted]at hg)|(refine DU ?_;clear hM;intro g W hM));go_cut [31] (fun s wx=>∃b,s= .bool b∧Hid (b=((!p0|| !p1|| !p2)))∧qU w wx ((gO,[Iv 0,Iv 0,Iv 0,Iv 0,Iv 0,Iv 0,Iv 0,Iv 0,Iv 0,Iv 0],138)::[(gC,[Iv cx,Iv cy],26),(gB,[Iv bx,Iv b_y],26),(gA,[Iv ax,Iv ay],26)]))
 case first=>
  go_wp2_with(first|(refine qf (PV0 _) ?_;clear hM;intro W1 hM)|(refine qf (PV1 _) ?_;clear hM;intro W1 hM)|(refine qf (PV2 _) ?_;clear hM;intro W1 hM)|refine qg ?_|((with_reducible refine kq ?_);refine yP (fun hg=> ?_) (fun hg=> ?_)<;>simp[go_sem,Region.wanted]at hg)|(refine DU ?_;clear hM;intro g W hM))
  all_goals
   go_meet;exact⟨_,rfl,hide (by(subst_vars;(repeat(first|rfl|(cases p0<;>simp_all;done)|(cases p0<;>cases p1<;>cases p2<;>simp_all;done))))),hM⟩
 case rest=>
 clear hM;obtain⟨b1,rfl,hb1,hM⟩:=hcut;rcases hq1:b1 with _|_;rotate_left 1
 ·have hN:(qw ax ay&&qw bx b_y&&qw cx cy)=false:=by
   obtain⟨h1,h2,h3⟩:=HP.out;rw[h1,h2,h3];have:=hb1.out;rw[hq1]at this;revert this;cases p0<;>cases p1<;>cases p2<;>simp
  clear HP hb1;subst hq1;go_wp2_with(first|(refine DU ?_;clear hM;intro g W hM))
  all_goals
   (obtain⟨⟨rfl,rfl,rfl,rfl,rfl⟩,⟨rfl,rfl,rfl,rfl,rfl⟩,rfl⟩:=yj (hR.out.trans (rX hN));refine' qO hM rfl rfl Tryz.isAgg138 Tryz.sizeOf138 rfl rfl ?_ ?_ ⟨?_,hM.below⟩;rotate_left 2;(·repeat constructor);(·rfl);(·rfl))
 have hN:p0=true∧p1=true∧p2=true:=by
  have:=hb1.out;rw[hq1]at this;revert this;cases p0<;>cases p1<;>cases p2<;>simp
 obtain⟨rfl,rfl,rfl⟩:=hN;have HV:Hid ((qw ax ay&&qw bx b_y&&qw cx cy)=true):=hide (by rw[HP.out.1,HP.out.2.1,HP.out.2.2];rfl);subst hq1;clear hb1 PV0 PV1 PV2;by_cases hr3:r<1∨r>8000000
 ·have hrr:(decide (r<1)=true)∨(decide (r<1)=false∧decide (8000000<r)=true):=by
   by_cases h:r<1
   ·exact .inl (decide_eq_true h)
   ·exact .inr ⟨decide_eq_false h,decide_eq_true DL⟩
  have HR3:=hide hr3;clear hr3;rcases hrr with hrr|⟨hrr,hrr2⟩
  all_goals
   go_wp2_with(first|(refine DU ?_;clear hM;intro g W hM))
   all_goals
    (obtain⟨⟨rfl,rfl,rfl,rfl,rfl⟩,⟨rfl,rfl,rfl,rfl,rfl⟩,rfl⟩:=yj (hR.out.trans (mg HV.out HR3.out));refine' qO hM rfl rfl Tryz.isAgg138 Tryz.sizeOf138 rfl rfl ?_ ?_ ⟨?_,hM.below⟩;rotate_left 2;(·repeat constructor);(·rfl);(·rfl))
 have hr1:¬r<1:=DL;have hr2:¬r>8000000:=DL;have HR3:=hide hr3;obtain⟨x,hx⟩:∃x,(qN ax ay bx b_y).1=x:=⟨_,rfl⟩;obtain⟨y,hy⟩:∃y,(qN bx b_y cx cy).1=y:=⟨_,rfl⟩;obtain⟨u,hu⟩:∃u,(qN ax ay bx b_y).2=u:=⟨_,rfl⟩;obtain⟨v,hv⟩:∃v,(qN bx b_y cx cy).2=v:=⟨_,rfl⟩;obtain⟨k1,hk1⟩:∃k1,qY ax ay bx b_y=k1:=⟨_,rfl⟩;obtain⟨k2,hk2⟩:∃k2,qY bx b_y cx cy=k2:=⟨_,rfl⟩;rw[hx,hu]at CA;rw[hy,hv]at CB;rw[hk1]at DA;rw[hk2]at DB;have bx1:=bZ ax ay bx b_y;have by1:=bZ bx b_y cx cy;rw[hx]at bx1;rw[hy]at by1;have ix:qK x:=DP;have iy:qK y:=DP;have HC:=hide (And.intro hx (And.intro hy (And.intro hu (And.intro hv (And.intro hk1 hk2)))));clear hx hy hu hv hk1 hk2;have DF:=fun W=>VS x y ix iy W
 have db:=tY x y;obtain⟨D,hD⟩:∃D,zJ x y=D:=⟨_,rfl⟩;rw[hD]at DF db;have AB:=fun W=>kY D DP DL W
 obtain⟨A,hA⟩:∃A:Int,(D.natAbs:Int)=A:=⟨_,rfl⟩;rw[hA]at AB;have bA:0≤A∧A≤64800000:=DL;have HD:=hide (And.intro hD hA);clear hD hA;by_cases hsm:u=0∧v=0;rotate_left 1
 ·have hss:(u !=0)=true∨((u !=0)=false∧(v !=0)=true):=by
   by_cases h:u=0
   ·exact .inr ⟨by simpa using h,by simp;try omega⟩
   ·exact .inl (by simpa using h)
  have hS:Hid ((ax=bx∧ay=b_y)∨(bx=cx∧b_y=cy)):=hide (by
   obtain⟨e1,e2,e3,e4,_⟩:=HC.out;refine Classical.byContradiction fun hn=>hsm ?_
   rw[←e3,←e4,uQ HP.out.1 HP.out.2.1 (fun h=>hn (.inl h)),uQ HP.out.2.1 HP.out.2.2 (fun h=>hn (.inr h))]
   exact⟨rfl,rfl⟩)
  clear hsm;rcases hss with hss|⟨hss,hss2⟩
  all_goals
   go_wp2_with(first|(refine DU ?_;clear hM;intro g W hM)|(refine qf (CA _) ?_;clear hM;intro W1 hM)|(refine qf (CB _) ?_;clear hM;intro W1 hM))
   all_goals
    (obtain⟨⟨rfl,rfl,rfl,rfl,rfl⟩,⟨rfl,rfl,rfl,rfl,rfl⟩,rfl⟩:=yj (hR.out.trans (Gu HV.out HR3.out hS.out));refine' qO hM rfl rfl Tryz.isAgg138 Tryz.sizeOf138 rfl rfl ?_ ?_ ⟨?_,hM.below⟩;rotate_left 2;(·repeat constructor);(·rfl);(·rfl))
 obtain⟨rfl,rfl⟩:=hsm
 have HF:Hid (([v0,v1,v2,v3,v4,v5,v6,v7,v8,v9],e0)=gX bx b_y x y r k1 k2):=hide (by
  obtain⟨e1,e2,e3,e4,e5,e6⟩:=HC.out;have n1:¬(ax=bx∧ay=b_y):=fun h=>by rw[gY HP.out.1 HP.out.2.1 h]at e3;cases e3
  have n2:¬(bx=cx∧b_y=cy):=fun h=>by rw[gY HP.out.2.1 HP.out.2.2 h]at e4;cases e4
  rw[hR.out,rZ HP.out.1 HP.out.2.1 HP.out.2.2 HR3.out n1 n2,e1,e2,e5,e6])
 clear hR HC HV HP;have hR:=HF;clear HF;by_cases hfar:54000000<A
 ·go_wp2_with(first|(refine DU ?_;clear hM;intro g W hM)|(refine qf (CA _) ?_;clear hM;intro W1 hM)|(refine qf (CB _) ?_;clear hM;intro W1 hM)|refine DG (DF _) ?_|refine DG (AB _) ?_)
  all_goals
   (obtain⟨⟨rfl,rfl,rfl,rfl,rfl⟩,⟨rfl,rfl,rfl,rfl,rfl⟩,rfl⟩:=yj (hR.out.trans (KU HD.out.1.symm (by have:=HD.out.2;omega)));refine' qO hM rfl rfl Tryz.isAgg138 Tryz.sizeOf138 rfl rfl ?_ ?_ ⟨?_,hM.below⟩;rotate_left 2;(·repeat constructor);(·rfl);(·rfl))
 have hl:=YH (r:=r) (d:=D) DL DL (by have:=HD.out.2;omega) rfl;rw[HD.out.2]at hl;have MU:=fun W=>xG r (jO (A/2)) (yF (A/2)) DP (by have:=bH (A/2);unfold qK;omega) (by have:=tJ (A/2);unfold qK;omega) W
 have SN:=fun W=>QM (A/2) DP W
 have CN:=fun W=>Jd (A/2) DP W
 rw[hl.1]at MU;have lb:=hl.2;clear hl;obtain⟨l,hle⟩:∃l,jm r D=l:=⟨_,rfl⟩;rw[hle]at MU lb;generalize jO (A/2)=sn at*;generalize yF (A/2)=cs at*;have HL:=hide hle;clear hle;by_cases hlm:l>k1∨l>k2
 ·have hss:decide (k1<l)=true∨(decide (k1<l)=false∧decide (k2<l)=true):=by
   by_cases h:k1<l
   ·exact .inl (decide_eq_true h)
   ·exact .inr ⟨decide_eq_false h,decide_eq_true DL⟩
  have HLM:=hide hlm;clear hlm;rcases hss with hss|⟨hss,hss2⟩
  all_goals
   go_wp2_with(first|(refine DU ?_;clear hM;intro g W hM)|(refine qf (CA _) ?_;clear hM;intro W1 hM)|(refine qf (CB _) ?_;clear hM;intro W1 hM)|refine DG (DF _) ?_|refine DG (AB _) ?_|refine DG (SN _) ?_|refine DG (CN _) ?_|(refine JL (MU _) ?_;clear hM;intro n1 hM)|(refine qf (DA _) ?_;clear hM;intro W1 hM)|(refine qf (DB _) ?_;clear hM;intro W1 hM))
   all_goals
    (obtain⟨⟨rfl,rfl,rfl,rfl,rfl⟩,⟨rfl,rfl,rfl,rfl,rfl⟩,rfl⟩:=yj (hR.out.trans (Vs HD.out.1.symm (by have:=HD.out.2;omega) HL.out.symm HLM.out));refine' qO hM rfl rfl Tryz.isAgg138 Tryz.sizeOf138 rfl rfl ?_ ?_ ⟨?_,hM.below⟩;rotate_left 2;(·repeat constructor);(·rfl);(·rfl))
 have hlm1:¬k1<l:=DL;have hlm2:¬k2<l:=DL;have HLM:=hide hlm;clear hlm;have OP:=fun W=>yu x ix W
 have SD:=fun W=>Yc 0 0 r 0 D 32400000 DQ DQ W
 have qb:zD D 32400000=32400000∨zD D 32400000= -32400000:=by unfold zD;split<;>omega
 obtain⟨q,hq⟩:∃q,zD D 32400000=q:=⟨_,rfl⟩;rw[hq]at SD qb;have TA:=fun W=>gH x (-q) ix DP W
 have TB:=fun W=>gH x q ix DP W
 have o1:=kG x 64800000;have o2:=kG x q;obtain⟨sx,sy,e1,hr1'⟩:∃sx sy e1,(sx,sy,e1)=zi bx b_y (zy x 64800000) l:=⟨_,_,_,rfl⟩;obtain⟨ex,ey,e2,hr2'⟩:∃ex ey e2,(ex,ey,e2)=zi bx b_y y l:=⟨_,_,_,rfl⟩;obtain⟨kx,ky,e3,hr3'⟩:∃kx ky e3,(kx,ky,e3)=zi sx sy (zy x q) r:=⟨_,_,_,rfl⟩;have R1:=fun W=>jN bx b_y (zy x 64800000) l DP DP W _ hr1'
 have R2:=fun W=>jN bx b_y y l iy DP W _ hr2'
 have R3:=fun W=>jN sx sy (zy x q) r DP DP W _ hr3'
 have HF:=hide (hR.out.trans (Vu (kx:=kx) (ky:=ky) (e3:=e3) HD.out.1.symm (by have:=HD.out.2;omega) HL.out.symm HLM.out hr1' hr2' (by rw[hq];exact hr3')));rw[hq]at HF;clear hR HLM HL HD hr1' hr2' hr3' hq o1 o2;have hR:=HF;clear HF;generalize zy x (-q)=t1 at*;generalize zy x q=t2 at*;generalize zy x 64800000=t3 at*;go_upto_region 19 with(first|(refine DU ?_;clear hM;intro g W hM)|(refine qf (CA _) ?_;clear hM;intro W1 hM)|(refine qf (CB _) ?_;clear hM;intro W1 hM)|refine DG (DF _) ?_|refine DG (AB _) ?_|refine DG (SN _) ?_|refine DG (CN _) ?_|(refine JL (MU _) ?_;clear hM;intro n1 hM)|(refine qf (DA _) ?_;clear hM;intro W1 hM)|(refine qf (DB _) ?_;clear hM;intro W1 hM)|(refine qf (SD _) ?_;clear hM;intro W1 hM)|refine DG (TA _) ?_);refine qu ?_;refine qP [(gB,[Iv bx,Iv b_y],26)] hM DN ?_;(clear hM;intro W hM);refine rD 0 ?_;refine rD 1 ?_;refine rD 3 ?_;refine dC 2 (fun K' hK'=> ?_);go_wp2_with(first|refine DG (OP _) ?_|(refine qf (R1 _) ?_;clear hM;intro W1 hM));refine rK hK' hM ?_;clear hK' K';refine dC 4 (fun K' hK'=> ?_);go_wp2_with(first|refine DG (OP _) ?_|(refine qf (R1 _) ?_;clear hM;intro W1 hM));refine rK hK' hM ?_;clear hK' K';refine rD 5 ?_;refine rD 6 ?_;refine rD 7 ?_;refine rD 8 ?_;refine dC 9 (fun K' hK'=> ?_);refine oS hM ?_;clear hM;intro W hM;refine rK hK' hM ?_;clear hK' K';refine rD 10 ?_;refine qF DN ?_;by_cases hz1:e1=0;rotate_left 1
 ·have hz1':(e1 !=0)=true:=by simpa using hz1
  obtain⟨⟨rfl,rfl,rfl,rfl,rfl⟩,⟨rfl,rfl,rfl,rfl,rfl⟩,rfl⟩:=yj (hR.out.trans (if_pos hz1));clear hz1;go_wp2_with(first|(refine DU ?_;clear hM;intro g W hM))
  all_goals
   (refine' qO hM rfl rfl Tryz.isAgg138 Tryz.sizeOf138 rfl rfl ?_ ?_ ⟨?_,hM.below⟩;rotate_left 2;(·repeat constructor);(·rfl);(·rfl))
 subst hz1;by_cases hz2:e2=0;rotate_left 1
 ·have hz2':(e2 !=0)=true:=by simpa using hz2
  obtain⟨⟨rfl,rfl,rfl,rfl,rfl⟩,⟨rfl,rfl,rfl,rfl,rfl⟩,rfl⟩:=yj (hR.out.trans ((if_neg DS).trans (if_pos hz2)));clear hz2;go_wp2_with(first|(refine DU ?_;clear hM;intro g W hM)|(refine qf (R2 _) ?_;clear hM;intro W1 hM))
  all_goals
   (refine' qO hM rfl rfl Tryz.isAgg138 Tryz.sizeOf138 rfl rfl ?_ ?_ ⟨?_,hM.below⟩;rotate_left 2;(·repeat constructor);(·rfl);(·rfl))
 subst hz2;go_upto_region 25 with(first|(refine DU ?_;clear hM;intro g W hM)|(refine qf (R2 _) ?_;clear hM;intro W1 hM));refine qu ?_;refine qP [(gB,[Iv bx,Iv b_y],26)] hM DN ?_;(clear hM;intro W hM);refine rD 0 ?_;refine rD 2 ?_;refine rD 3 ?_;refine rD 5 ?_;refine dT 1 4 (fun K' hK'=> ?_) (fun K' hK'=> ?_)
 ·
  first|refine oL hM ?_|refine oM hM ?_
  refine rK hK' hM ?_;clear hK' K';refine dC 4 (fun K' hK'=> ?_);go_wp2_with(first|refine DG (TB _) ?_|(refine qf (R3 _) ?_;clear hM;intro W1 hM));refine rK hK' hM ?_;clear hK' K';refine dC 6 (fun K' hK'=> ?_);go_wp2_with(first|refine DG (TB _) ?_|(refine qf (R3 _) ?_;clear hM;intro W1 hM));refine rK hK' hM ?_;clear hK' K';refine rD 7 ?_;refine rD 8 ?_;refine rD 9 ?_;refine rD 10 ?_;refine rD 11 ?_;refine dC 12 (fun K' hK'=> ?_);refine oS hM ?_;clear hM;intro W hM;refine rK hK' hM ?_;clear hK' K';refine rD 13 ?_;refine qF DN ?_;by_cases hz3:e3=0
  ·subst hz3;obtain⟨⟨rfl,rfl,rfl,rfl,rfl⟩,⟨rfl,rfl,rfl,rfl,rfl⟩,rfl⟩:=UU (hR.out.trans ((if_neg DS).trans ((if_neg DS).trans (if_neg DS))));go_wp2_with(first|(refine DU ?_;clear hM;intro g W hM))
   all_goals
    (refine' qO hM rfl rfl Tryz.isAgg138 Tryz.sizeOf138 rfl rfl ?_ ?_ ⟨?_,hM.below⟩;rotate_left 2;(·repeat constructor);(·rfl);(·rfl))
  ·have hz3':(e3 !=0)=true:=by simpa using hz3
   obtain⟨⟨rfl,rfl,rfl,rfl,rfl⟩,⟨rfl,rfl,rfl,rfl,rfl⟩,rfl⟩:=yj (hR.out.trans ((if_neg DS).trans ((if_neg DS).trans (if_pos hz3))));clear hz3;go_wp2_with(first|(refine DU ?_;clear hM;intro g W hM))
   all_goals
    (refine' qO hM rfl rfl Tryz.isAgg138 Tryz.sizeOf138 rfl rfl ?_ ?_ ⟨?_,hM.below⟩;rotate_left 2;(·repeat constructor);(·rfl);(·rfl))
 ·
  go_wp2_with(first|refine DG (TB _) ?_|(refine qf (R3 _) ?_;clear hM;intro W1 hM));refine rK hK' hM ?_;clear hK' K';refine dC 1 (fun K' hK'=> ?_)
  first|refine oL hM ?_|refine oM hM ?_
  refine rK hK' hM ?_;clear hK' K';refine dC 6 (fun K' hK'=> ?_);go_wp2_with(first|refine DG (TB _) ?_|(refine qf (R3 _) ?_;clear hM;intro W1 hM));refine rK hK' hM ?_;clear hK' K';refine rD 7 ?_;refine rD 8 ?_;refine rD 9 ?_;refine rD 10 ?_;refine rD 11 ?_;refine dC 12 (fun K' hK'=> ?_);refine oS hM ?_;clear hM;intro W hM;refine rK hK' hM ?_;clear hK' K';refine rD 13 ?_;refine qF DN ?_;by_cases hz3:e3=0
  ·subst hz3;obtain⟨⟨rfl,rfl,rfl,rfl,rfl⟩,⟨rfl,rfl,rfl,rfl,rfl⟩,rfl⟩:=UU (hR.out.trans ((if_neg DS).trans ((if_neg DS).trans (if_neg DS))));go_wp2_with(first|(refine DU ?_;clear hM;intro g W hM))
   all_goals
    (refine' qO hM rfl rfl Tryz.isAgg138 Tryz.sizeOf138 rfl rfl ?_ ?_ ⟨?_,hM.below⟩;rotate_left 2;(·repeat constructor);(·rfl);(·rfl))
  ·have hz3':(e3 !=0)=true:=by simpa using hz3
   obtain⟨⟨rfl,rfl,rfl,rfl,rfl⟩,⟨rfl,rfl,rfl,rfl,rfl⟩,rfl⟩:=yj (hR.out.trans ((if_neg DS).trans ((if_neg DS).trans (if_pos hz3))));clear hz3;go_wp2_with(first|(refine DU ?_;clear hM;intro g W hM))
   all_goals
    (refine' qO hM rfl rfl Tryz.isAgg138 Tryz.sizeOf138 rfl rfl ?_ ?_ ⟨?_,hM.below⟩;rotate_left 2;(·repeat constructor);(·rfl);(·rfl))
set_option maxRecDepth 100000 in
set_option maxHeartbeats 8000000 in
theorem rv(ax ay bx b_y cx cy r:Int)(w:World)(v0 v1 v2 v3 v4 v5 v6 v7 v8 v9 e0:Int)(hR:Hid (([v0,v1,v2,v3,v4,v5,v6,v7,v8,v9],e0)=bg ax ay bx b_y cx cy r)):
 Calls Tryz.prog 134 #[.agg #[Iv ax,Iv ay],.agg #[Iv bx,Iv b_y],.agg #[Iv cx,Iv cy],Iv r] w fun e w'=>e= .returned (.tuple #[.agg #[Iv v0,Iv v1,Iv v2,Iv v3,Iv v4,Iv v5,Iv v6,Iv v7,Iv v8,Iv v9],Iv e0])∧Below w.heap.size w w':=by
 have PV0:=fun W=>qL ax ay W
 have PV1:=fun W=>qL bx b_y W
 have PV2:=fun W=>qL cx cy W
 have CA:=fun W=>yX ax ay bx b_y W
 have CB:=fun W=>yX bx b_y cx cy W
 have DA:=fun W=>ui ax ay bx b_y W
 have DB:=fun W=>ui bx b_y cx cy W
 obtain⟨p0,hp0⟩:∃p0,qw ax ay=p0:=⟨_,rfl⟩;obtain⟨p1,BU⟩:∃p1,qw bx b_y=p1:=⟨_,rfl⟩;obtain⟨p2,hp2⟩:∃p2,qw cx cy=p2:=⟨_,rfl⟩;rw[hp0]at PV0;rw[BU]at PV1;rw[hp2]at PV2;have HP:=hide (And.intro hp0 (And.intro BU hp2));clear hp0 BU hp2;have hM:=qE w;go_enter Tryz.func134,Tryz.ntmps134;go_upto_region 0 with fail;refine qu ?_;go_cut [8,6,5,4] (fun s8 s6 s5 s4 wx=>∃gO gC gB gA:Nat,s8= .pointer (some ⟨gO,0,none⟩)∧s6= .pointer (some ⟨gC,0,none⟩)∧s5= .pointer (some ⟨gB,0,none⟩)∧s4= .pointer (some ⟨gA,0,none⟩)∧qU w wx ((gO,[Iv 0,Iv 0,Iv 0,Iv 0,Iv 0,Iv 0,Iv 0,Iv 0,Iv 0,Iv 0],138)::[(gC,[Iv cx,Iv cy],26),(gB,[Iv bx,Iv b_y],26),(gA,[Iv ax,Iv ay],26)]))
 case first=>
  go_wp2_with(first|(refine DU ?_;clear hM;intro g W hM))
  all_goals
   go_meet;exact⟨_,_,_,_,rfl,rfl,rfl,rfl,hM⟩
 case rest=>
 clear hM;obtain⟨gO,gC,gB,gA,rfl,rfl,rfl,rfl,hM⟩:=hcut;go_upto_region 1 with(first|(refine qf (PV0 _) ?_;clear hM;intro W1 hM)|(refine qf (PV1 _) ?_;clear hM;intro W1 hM)|(refine qf (PV2 _) ?_;clear hM;intro W1 hM)|refine qg ?_|((with_reducible refine kq ?_);refine yP (fun hg=> ?_) (fun hg=> ?_)<;>simp[go_sem,Region.wanted]at hg)|(refine DU ?_;clear hM;intro g W hM));go_cut [23] (fun s wx=>∃b,s= .bool b∧Hid (b=((!p0|| !p1|| !p2)))∧qU w wx ((gO,[Iv 0,Iv 0,Iv 0,Iv 0,Iv 0,Iv 0,Iv 0,Iv 0,Iv 0,Iv 0],138)::[(gC,[Iv cx,Iv cy],26),(gB,[Iv bx,Iv b_y],26),(gA,[Iv ax,Iv ay],26)]))
 case first=>
  go_wp2_with(first|(refine qf (PV0 _) ?_;clear hM;intro W1 hM)|(refine qf (PV1 _) ?_;clear hM;intro W1 hM)|(refine qf (PV2 _) ?_;clear hM;intro W1 hM)|refine qg ?_|((with_reducible refine kq ?_);refine yP (fun hg=> ?_) (fun hg=> ?_)<;>simp[go_sem,Region.wanted]at hg)|(refine DU ?_;clear hM;intro g W hM))
  all_goals
   go_meet;exact⟨_,rfl,hide (by(subst_vars;(repeat(first|rfl|(cases p0<;>simp_all;done)|(cases p0<;>cases p1<;>cases p2<;>simp_all;done))))),hM⟩
 case rest=>
 clear hM;obtain⟨b1,rfl,hb1,hM⟩:=hcut;rcases hq1:b1 with _|_;rotate_left 1
 ·have hN:(qw ax ay&&qw bx b_y&&qw cx cy)=false:=by
   obtain⟨h1,h2,h3⟩:=HP.out;rw[h1,h2,h3];have:=hb1.out;rw[hq1]at this;revert this;cases p0<;>cases p1<;>cases p2<;>simp
  clear HP hb1;subst hq1;go_wp2_with(first|(refine DU ?_;clear hM;intro g W hM))
  all_goals
   (obtain⟨⟨rfl,rfl,rfl,rfl,rfl⟩,⟨rfl,rfl,rfl,rfl,rfl⟩,rfl⟩:=yj (hR.out.trans (rX hN));refine' qO hM rfl rfl Tryz.isAgg138 Tryz.sizeOf138 rfl rfl ?_ ?_ ⟨?_,hM.below⟩;rotate_left 2;(·repeat constructor);(·rfl);(·rfl))
 have hN:p0=true∧p1=true∧p2=true:=by
  have:=hb1.out;rw[hq1]at this;revert this;cases p0<;>cases p1<;>cases p2<;>simp
 obtain⟨rfl,rfl,rfl⟩:=hN;have HV:Hid ((qw ax ay&&qw bx b_y&&qw cx cy)=true):=hide (by rw[HP.out.1,HP.out.2.1,HP.out.2.2];rfl);subst hq1;clear hb1 PV0 PV1 PV2;by_cases hr3:r<1∨r>8000000
 ·have hrr:(decide (r<1)=true)∨(decide (r<1)=false∧decide (8000000<r)=true):=by
   by_cases h:r<1
   ·exact .inl (decide_eq_true h)
   ·exact .inr ⟨decide_eq_false h,decide_eq_true DL⟩
  have HR3:=hide hr3;clear hr3;rcases hrr with hrr|⟨hrr,hrr2⟩
  all_goals
   go_wp2_with(first|(refine DU ?_;clear hM;intro g W hM))
   all_goals
    (obtain⟨⟨rfl,rfl,rfl,rfl,rfl⟩,⟨rfl,rfl,rfl,rfl,rfl⟩,rfl⟩:=yj (hR.out.trans (mg HV.out HR3.out));refine' qO hM rfl rfl Tryz.isAgg138 Tryz.sizeOf138 rfl rfl ?_ ?_ ⟨?_,hM.below⟩;rotate_left 2;(·repeat constructor);(·rfl);(·rfl))
 have hr1:¬r<1:=DL;have hr2:¬r>8000000:=DL;have HR3:=hide hr3;obtain⟨x,hx⟩:∃x,(qN ax ay bx b_y).1=x:=⟨_,rfl⟩;obtain⟨y,hy⟩:∃y,(qN bx b_y cx cy).1=y:=⟨_,rfl⟩;obtain⟨u,hu⟩:∃u,(qN ax ay bx b_y).2=u:=⟨_,rfl⟩;obtain⟨v,hv⟩:∃v,(qN bx b_y cx cy).2=v:=⟨_,rfl⟩;obtain⟨k1,hk1⟩:∃k1,qY ax ay bx b_y=k1:=⟨_,rfl⟩;obtain⟨k2,hk2⟩:∃k2,qY bx b_y cx cy=k2:=⟨_,rfl⟩;rw[hx,hu]at CA;rw[hy,hv]at CB;rw[hk1]at DA;rw[hk2]at DB;have bx1:=bZ ax ay bx b_y;have by1:=bZ bx b_y cx cy;rw[hx]at bx1;rw[hy]at by1;have ix:qK x:=DP;have iy:qK y:=DP;have HC:=hide (And.intro hx (And.intro hy (And.intro hu (And.intro hv (And.intro hk1 hk2)))));clear hx hy hu hv hk1 hk2;have DF:=fun W=>JW x y ix iy W
 have db:=tY x y;obtain⟨D,hD⟩:∃D,zJ x y=D:=⟨_,rfl⟩;rw[hD]at DF db;have AB:=fun W=>QR D DL DL W
 obtain⟨A,hA⟩:∃A:Int,(D.natAbs:Int)=A:=⟨_,rfl⟩;rw[hA]at AB;have bA:0≤A∧A≤64800000:=DL;have HD:=hide (And.intro hD hA);clear hD hA;by_cases hsm:u=0∧v=0;rotate_left 1
 ·have hss:(u !=0)=true∨((u !=0)=false∧(v !=0)=true):=by
   by_cases h:u=0
   ·exact .inr ⟨by simpa using h,by simp;try omega⟩
   ·exact .inl (by simpa using h)
  have hS:Hid ((ax=bx∧ay=b_y)∨(bx=cx∧b_y=cy)):=hide (by
   obtain⟨e1,e2,e3,e4,_⟩:=HC.out;refine Classical.byContradiction fun hn=>hsm ?_
   rw[←e3,←e4,uQ HP.out.1 HP.out.2.1 (fun h=>hn (.inl h)),uQ HP.out.2.1 HP.out.2.2 (fun h=>hn (.inr h))]
   exact⟨rfl,rfl⟩)
  clear hsm;rcases hss with hss|⟨hss,hss2⟩
  all_goals
   go_wp2_with(first|(refine DU ?_;clear hM;intro g W hM)|(refine qf (CA _) ?_;clear hM;intro W1 hM)|(refine qf (CB _) ?_;clear hM;intro W1 hM)|refine DG (DF _) ?_|refine DG (AB _) ?_)
   all_goals
    (obtain⟨⟨rfl,rfl,rfl,rfl,rfl⟩,⟨rfl,rfl,rfl,rfl,rfl⟩,rfl⟩:=yj (hR.out.trans (Gu HV.out HR3.out hS.out));refine' qO hM rfl rfl Tryz.isAgg138 Tryz.sizeOf138 rfl rfl ?_ ?_ ⟨?_,hM.below⟩;rotate_left 2;(·repeat constructor);(·rfl);(·rfl))
 obtain⟨rfl,rfl⟩:=hsm
 have HF:Hid (([v0,v1,v2,v3,v4,v5,v6,v7,v8,v9],e0)=gX bx b_y x y r k1 k2):=hide (by
  obtain⟨e1,e2,e3,e4,e5,e6⟩:=HC.out;have n1:¬(ax=bx∧ay=b_y):=fun h=>by rw[gY HP.out.1 HP.out.2.1 h]at e3;cases e3
  have n2:¬(bx=cx∧b_y=cy):=fun h=>by rw[gY HP.out.2.1 HP.out.2.2 h]at e4;cases e4
  rw[hR.out,rZ HP.out.1 HP.out.2.1 HP.out.2.2 HR3.out n1 n2,e1,e2,e5,e6])
 clear hR HC HV HP;have hR:=HF;clear HF;by_cases hfar:54000000<A
 ·go_wp2_with(first|(refine DU ?_;clear hM;intro g W hM)|(refine qf (CA _) ?_;clear hM;intro W1 hM)|(refine qf (CB _) ?_;clear hM;intro W1 hM)|refine DG (DF _) ?_|refine DG (AB _) ?_)
  all_goals
   (obtain⟨⟨rfl,rfl,rfl,rfl,rfl⟩,⟨rfl,rfl,rfl,rfl,rfl⟩,rfl⟩:=yj (hR.out.trans (KU HD.out.1.symm (by have:=HD.out.2;omega)));refine' qO hM rfl rfl Tryz.isAgg138 Tryz.sizeOf138 rfl rfl ?_ ?_ ⟨?_,hM.below⟩;rotate_left 2;(·repeat constructor);(·rfl);(·rfl))
 have hl:=YH (r:=r) (d:=D) DL DL (by have:=HD.out.2;omega) rfl;rw[HD.out.2]at hl;have MU:=fun W=>bc r (jO (A/2)) (yF (A/2)) DP (by have:=bH (A/2);unfold qK;omega) (by have:=tJ (A/2);unfold qK;omega) W
 have SN:=fun W=>vC (A/2) DP W
 have CN:=fun W=>kg (A/2) DP W
 rw[hl.1]at MU;have lb:=hl.2;clear hl;obtain⟨l,hle⟩:∃l,jm r D=l:=⟨_,rfl⟩;rw[hle]at MU lb;generalize jO (A/2)=sn at*;generalize yF (A/2)=cs at*;have HL:=hide hle;clear hle;by_cases hlm:l>k1∨l>k2
 ·have hss:decide (k1<l)=true∨(decide (k1<l)=false∧decide (k2<l)=true):=by
   by_cases h:k1<l
   ·exact .inl (decide_eq_true h)
   ·exact .inr ⟨decide_eq_false h,decide_eq_true DL⟩
  have HLM:=hide hlm;clear hlm;rcases hss with hss|⟨hss,hss2⟩
  all_goals
   go_wp2_with(first|(refine DU ?_;clear hM;intro g W hM)|(refine qf (CA _) ?_;clear hM;intro W1 hM)|(refine qf (CB _) ?_;clear hM;intro W1 hM)|refine DG (DF _) ?_|refine DG (AB _) ?_|refine DG (SN _) ?_|refine DG (CN _) ?_|(refine JL (MU _) ?_;clear hM;intro n1 hM)|(refine qf (DA _) ?_;clear hM;intro W1 hM)|(refine qf (DB _) ?_;clear hM;intro W1 hM))
   all_goals
    (obtain⟨⟨rfl,rfl,rfl,rfl,rfl⟩,⟨rfl,rfl,rfl,rfl,rfl⟩,rfl⟩:=yj (hR.out.trans (Vs HD.out.1.symm (by have:=HD.out.2;omega) HL.out.symm HLM.out));refine' qO hM rfl rfl Tryz.isAgg138 Tryz.sizeOf138 rfl rfl ?_ ?_ ⟨?_,hM.below⟩;rotate_left 2;(·repeat constructor);(·rfl);(·rfl))
 have hlm1:¬k1<l:=DL;have hlm2:¬k2<l:=DL;have HLM:=hide hlm;clear hlm;have OP:=fun W=>jT x ix W
 have qn:zD D (-32400000)= -(zD D 32400000):=by unfold zD;split<;>rfl
 have SD:=fun W=>uX x 32400000 D ix DQ DQ W
 have SE:=fun W=>uX x (-32400000) D ix DQ DQ W
 rw[qn]at SE;obtain⟨q,hq⟩:∃q,zD D 32400000=q:=⟨_,rfl⟩;rw[hq]at SD SE;clear qn;have o1:=kG x 64800000;have o2:=kG x q;obtain⟨sx,sy,e1,hr1'⟩:∃sx sy e1,(sx,sy,e1)=zi bx b_y (zy x 64800000) l:=⟨_,_,_,rfl⟩;obtain⟨ex,ey,e2,hr2'⟩:∃ex ey e2,(ex,ey,e2)=zi bx b_y y l:=⟨_,_,_,rfl⟩;obtain⟨kx,ky,e3,hr3'⟩:∃kx ky e3,(kx,ky,e3)=zi sx sy (zy x q) r:=⟨_,_,_,rfl⟩;have R1:=fun W=>jv bx b_y (zy x 64800000) l DP DP W _ hr1'
 have R2:=fun W=>jv bx b_y y l iy DP W _ hr2'
 have R3:=fun W=>jv sx sy (zy x q) r DP DP W _ hr3'
 have HF:=hide (hR.out.trans (Vu (kx:=kx) (ky:=ky) (e3:=e3) HD.out.1.symm (by have:=HD.out.2;omega) HL.out.symm HLM.out hr1' hr2' (by rw[hq];exact hr3')));rw[hq]at HF;clear hR HLM HL HD hr1' hr2' hr3' hq o1 o2;have hR:=HF;clear HF;generalize zy x (-q)=t1 at*;generalize zy x q=t2 at*;generalize zy x 64800000=t3 at*;go_upto_region 14 with(first|(refine DU ?_;clear hM;intro g W hM)|(refine qf (CA _) ?_;clear hM;intro W1 hM)|(refine qf (CB _) ?_;clear hM;intro W1 hM)|refine DG (DF _) ?_|refine DG (AB _) ?_|refine DG (SN _) ?_|refine DG (CN _) ?_|(refine JL (MU _) ?_;clear hM;intro n1 hM)|(refine qf (DA _) ?_;clear hM;intro W1 hM)|(refine qf (DB _) ?_;clear hM;intro W1 hM));refine qu ?_;go_cut [18,11] (fun s18 s11 wx=>∃g18:Nat,s18= .pointer (some ⟨g18,0,none⟩)∧s11=Iv e1∧qU w wx ((g18,[Iv sx,Iv sy],26)::((gO,[Iv 0,Iv 0,Iv 0,Iv 0,Iv 0,Iv 0,Iv 0,Iv 0,Iv 0,Iv 0],138)::[(gC,[Iv cx,Iv cy],26),(gB,[Iv bx,Iv b_y],26),(gA,[Iv ax,Iv ay],26)])))
 case first=>
  refine qP [(gB,[Iv bx,Iv b_y],26)] hM DN ?_;(clear hM;intro W hM);refine rD 0 ?_;refine rD 1 ?_;refine rD 3 ?_;refine dT 2 8 (fun K' hK'=> ?_) (fun K' hK'=> ?_)
  ·
   go_wp2_with(first|refine DG (OP _) ?_|(refine qf (R1 _) ?_;clear hM;intro W1 hM));refine rK hK' hM ?_;clear hK' K';refine dT 4 8 (fun K' hK'=> ?_) (fun K' hK'=> ?_)
   ·
    go_wp2_with(first|refine DG (OP _) ?_|(refine qf (R1 _) ?_;clear hM;intro W1 hM));refine rK hK' hM ?_;clear hK' K';refine rD 5 ?_;refine rD 6 ?_;refine rD 7 ?_;refine dC 8 (fun K' hK'=> ?_);refine oN hM ?_;clear hM;intro g18 W hM;refine rK hK' hM ?_;clear hK' K';refine dC 9 (fun K' hK'=> ?_);refine oS hM ?_;clear hM;intro W hM;refine rK hK' hM ?_;clear hK' K';refine rD 10 ?_;refine qF DN ?_;go_wp2_with fail
    all_goals
     go_meet;exact⟨_,rfl,rfl,hM⟩
   ·
    refine oN hM ?_;clear hM;intro g18 W hM;refine rK hK' hM ?_;clear hK' K';refine dC 4 (fun K' hK'=> ?_);go_wp2_with(first|refine DG (OP _) ?_|(refine qf (R1 _) ?_;clear hM;intro W1 hM));refine rK hK' hM ?_;clear hK' K';refine rD 5 ?_;refine rD 6 ?_;refine rD 7 ?_;refine dC 9 (fun K' hK'=> ?_);refine oS hM ?_;clear hM;intro W hM;refine rK hK' hM ?_;clear hK' K';refine rD 10 ?_;refine qF DN ?_;go_wp2_with fail
    all_goals
     go_meet;exact⟨_,rfl,rfl,hM⟩
  ·
   refine oN hM ?_;clear hM;intro g18 W hM;refine rK hK' hM ?_;clear hK' K';refine dC 2 (fun K' hK'=> ?_);go_wp2_with(first|refine DG (OP _) ?_|(refine qf (R1 _) ?_;clear hM;intro W1 hM));refine rK hK' hM ?_;clear hK' K';refine dC 4 (fun K' hK'=> ?_);go_wp2_with(first|refine DG (OP _) ?_|(refine qf (R1 _) ?_;clear hM;intro W1 hM));refine rK hK' hM ?_;clear hK' K';refine rD 5 ?_;refine rD 6 ?_;refine rD 7 ?_;refine dC 9 (fun K' hK'=> ?_);refine oS hM ?_;clear hM;intro W hM;refine rK hK' hM ?_;clear hK' K';refine rD 10 ?_;refine qF DN ?_;go_wp2_with fail
   all_goals
    go_meet;exact⟨_,rfl,rfl,hM⟩
 case rest=>
 clear hM;obtain⟨g18,rfl,rfl,hM⟩:=hcut;go_upto_region 16 with(first|(refine DU ?_;clear hM;intro g W hM)|(refine qf (R2 _) ?_;clear hM;intro W1 hM));obtain⟨g19,rfl⟩:=Dy hM;refine qu ?_;go_cut [20,21] (fun s20 s21 wx=>∃g20:Nat,s20= .pointer (some ⟨g20,0,none⟩)∧s21=Iv e3∧qU w wx ((g20,[Iv kx,Iv ky],26)::(g19,[Iv ex,Iv ey],26)::((g18,[Iv sx,Iv sy],26)::((gO,[Iv 0,Iv 0,Iv 0,Iv 0,Iv 0,Iv 0,Iv 0,Iv 0,Iv 0,Iv 0],138)::[(gC,[Iv cx,Iv cy],26),(gB,[Iv bx,Iv b_y],26),(gA,[Iv ax,Iv ay],26)]))))
 case first=>
  refine qP [(g18,[Iv sx,Iv sy],26)] hM DN ?_;(clear hM;intro W hM);refine rD 0 ?_;refine rD 1 ?_;refine rD 2 ?_;refine rD 4 ?_;refine dT 3 9 (fun K' hK'=> ?_) (fun K' hK'=> ?_)
  ·
   go_wp2_with(first|refine DG (SD _) ?_|(refine qf (R3 _) ?_;clear hM;intro W1 hM));refine rK hK' hM ?_;clear hK' K';refine dT 5 9 (fun K' hK'=> ?_) (fun K' hK'=> ?_)
   ·
    go_wp2_with(first|refine DG (SD _) ?_|(refine qf (R3 _) ?_;clear hM;intro W1 hM));refine rK hK' hM ?_;clear hK' K';refine rD 6 ?_;refine rD 7 ?_;refine rD 8 ?_;refine dC 9 (fun K' hK'=> ?_);refine oN hM ?_;clear hM;intro g20 W hM;refine rK hK' hM ?_;clear hK' K';refine dC 10 (fun K' hK'=> ?_);refine oS hM ?_;clear hM;intro W hM;refine rK hK' hM ?_;clear hK' K';refine rD 11 ?_;refine qF DN ?_;go_wp2_with fail
    all_goals
     go_meet;exact⟨_,rfl,rfl,hM⟩
   ·
    refine oN hM ?_;clear hM;intro g20 W hM;refine rK hK' hM ?_;clear hK' K';refine dC 5 (fun K' hK'=> ?_);go_wp2_with(first|refine DG (SD _) ?_|(refine qf (R3 _) ?_;clear hM;intro W1 hM));refine rK hK' hM ?_;clear hK' K';refine rD 6 ?_;refine rD 7 ?_;refine rD 8 ?_;refine dC 10 (fun K' hK'=> ?_);refine oS hM ?_;clear hM;intro W hM;refine rK hK' hM ?_;clear hK' K';refine rD 11 ?_;refine qF DN ?_;go_wp2_with fail
    all_goals
     go_meet;exact⟨_,rfl,rfl,hM⟩
  ·
   refine oN hM ?_;clear hM;intro g20 W hM;refine rK hK' hM ?_;clear hK' K';refine dC 3 (fun K' hK'=> ?_);go_wp2_with(first|refine DG (SD _) ?_|(refine qf (R3 _) ?_;clear hM;intro W1 hM));refine rK hK' hM ?_;clear hK' K';refine dC 5 (fun K' hK'=> ?_);go_wp2_with(first|refine DG (SD _) ?_|(refine qf (R3 _) ?_;clear hM;intro W1 hM));refine rK hK' hM ?_;clear hK' K';refine rD 6 ?_;refine rD 7 ?_;refine rD 8 ?_;refine dC 10 (fun K' hK'=> ?_);refine oS hM ?_;clear hM;intro W hM;refine rK hK' hM ?_;clear hK' K';refine rD 11 ?_;refine qF DN ?_;go_wp2_with fail
   all_goals
    go_meet;exact⟨_,rfl,rfl,hM⟩
 case rest=>
 clear hM;obtain⟨g20,rfl,rfl,hM⟩:=hcut;by_cases hz:e1=0∧e2=0∧e3=0;rotate_left 1
 ·have hss:(e1 !=0)=true∨((e1 !=0)=false∧(e2 !=0)=true)∨((e1 !=0)=false∧(e2 !=0)=false∧(e3 !=0)=true):=by
   by_cases h:e1=0
   ·by_cases h2:e2=0
    ·exact .inr (.inr ⟨by simpa using h,by simpa using h2,by simp;omega⟩)
    ·exact .inr (.inl ⟨by simpa using h,by simpa using h2⟩)
   ·exact .inl (by simpa using h)
  obtain⟨⟨rfl,rfl,rfl,rfl,rfl⟩,⟨rfl,rfl,rfl,rfl,rfl⟩,rfl⟩:=yj (e:=2) (hR.out.trans (by
   by_cases h:e1=0
   ·rw[if_neg (by simpa using h)];by_cases h2:e2=0
    ·rw[if_neg (by simpa using h2),if_pos DL]
    ·rw[if_pos h2]
   ·rw[if_pos h]))
  clear hz;rcases hss with hss|⟨hss,hss2⟩|⟨hss,hss2,hss3⟩
  all_goals
   go_wp2_with(first|(refine DU ?_;clear hM;intro g W hM))
   all_goals
    (refine' qO hM rfl rfl Tryz.isAgg138 Tryz.sizeOf138 rfl rfl ?_ ?_ ⟨?_,hM.below⟩;rotate_left 2;(·repeat constructor);(·rfl);(·rfl))
 obtain⟨rfl,rfl,rfl⟩:=hz;obtain⟨⟨rfl,rfl,rfl,rfl,rfl⟩,⟨rfl,rfl,rfl,rfl,rfl⟩,rfl⟩:=UU (hR.out.trans ((if_neg DS).trans ((if_neg DS).trans (if_neg DS))));go_upto_region 19 with(first|(refine DU ?_;clear hM;intro g W hM));refine qu ?_;refine qP [(g20,[Iv v0,Iv v1],26)] hM DN ?_;(clear hM;intro W hM);refine rD 0 ?_;refine rD 1 ?_;refine rD 2 ?_;refine rD 3 ?_;refine rD 5 ?_;refine dT 4 7 (fun K' hK'=> ?_) (fun K' hK'=> ?_)
 ·
  go_wp2_with(first|refine DG (SE _) ?_);refine rK hK' hM ?_;clear hK' K';refine rD 6 ?_;refine dC 7 (fun K' hK'=> ?_);refine oN hM ?_;clear hM;intro g22 W hM;refine rK hK' hM ?_;clear hK' K';refine dC 8 (fun K' hK'=> ?_);refine oS hM ?_;clear hM;intro W hM;refine rK hK' hM ?_;clear hK' K';refine qF DN ?_;go_wp2_with(first|(refine DU ?_;clear hM;intro g W hM))
  all_goals
   (refine' qO hM rfl rfl Tryz.isAgg138 Tryz.sizeOf138 rfl rfl ?_ ?_ ⟨?_,hM.below⟩;rotate_left 2;(·repeat constructor);(·rfl);(·rfl))
 ·
  refine oN hM ?_;clear hM;intro g22 W hM;refine rK hK' hM ?_;clear hK' K';refine dC 4 (fun K' hK'=> ?_);go_wp2_with(first|refine DG (SE _) ?_);refine rK hK' hM ?_;clear hK' K';refine rD 6 ?_;refine dC 8 (fun K' hK'=> ?_);refine oS hM ?_;clear hM;intro W hM;refine rK hK' hM ?_;clear hK' K';refine qF DN ?_;go_wp2_with(first|(refine DU ?_;clear hM;intro g W hM))
  all_goals
   (refine' qO hM rfl rfl Tryz.isAgg138 Tryz.sizeOf138 rfl rfl ?_ ?_ ⟨?_,hM.below⟩;rotate_left 2;(·repeat constructor);(·rfl);(·rfl))
end Go.Proofs.YtcgpbnlhnafhjaaGreatDoor
