/-
  Patterns and how they are entered, by boxes: the reference.
-/
import Derived.Test.YtcgpbnlhnafhjaaGreatDoorMHoldAr
set_option maxRecDepth 100000
set_option maxHeartbeats 16000000
namespace Go.Proofs.YtcgpbnlhnafhjaaGreatDoor
open Go.RowKit
set_option linter.unusedVariables false
set_option linter.unusedSimpArgs false
theorem wL(k fx fy inb tn leg rad e0:Int)(hE:kB fx fy inb tn leg rad=e0)(h0:e0≠0)(w:World):
 Calls Tryz.prog 61 #[.int .u8 k,.agg #[Iv fx,Iv fy],Iv inb,.int .u8 tn,Iv leg,Iv rad] w fun e w'=>e= .returned (.tuple #[.slice none 0 0,Iv e0])∧Below w.heap.size w w':=by
 have LY:=fun W=>JF fx fy inb tn leg rad W
 rw[tR hE h0,hE]at LY;have h1:(e0 !=0)=true:=by simpa using h0
 clear hE h0;have hM:=qE w;go_enter Tryz.func61,Tryz.ntmps61;go_wp2_with(first|(refine DU ?_;clear hM;intro g W hM)|(refine qf (LY _) ?_;clear hM;intro W1 hM))
 all_goals
  go_ret2;exact⟨rfl,hM.below⟩
theorem Gr(fx fy inb tn leg rad:Int)(hE:kB fx fy inb tn leg rad=0)(w:World):
 Calls Tryz.prog 63 #[.agg #[Iv fx,Iv fy],Iv inb,.int .u8 tn,Iv leg,Iv rad] w fun e w'=>∃g:Nat,e= .returned (.tuple #[.slice (some ⟨g,0,none⟩) 4 4,Iv 0])∧qU w w' [(g,(tP fx fy inb tn leg rad).flatMap El.cells,53)]:=by
 have LY:=fun W=>JF fx fy inb tn leg rad W
 obtain⟨⟨i1,i2⟩,⟨r1,r2⟩,ht⟩:=YF hE;obtain⟨s,hs⟩:∃s,tO fx fy inb tn leg rad=s:=⟨_,rfl⟩;obtain⟨U,hU⟩:∃U,kz inb tn=U:=⟨_,rfl⟩;obtain⟨q,hq⟩:∃q,tN tn=q:=⟨_,rfl⟩;have qb:q=32400000∨q= -32400000:=by rw[←hq];unfold tN;split<;>omega
 have ub: -32400000≤U∧U≤162000000:=by rw[←hU];unfold kz;rw[hq];omega
 have hC:Yh fx fy inb tn leg rad=[Iv fx,Iv fy,Iv s.x1,Iv s.y1,Iv s.x2,Iv s.y2,Iv s.x3,Iv s.y3,Iv s.cx,Iv s.cy,Iv s.dx,Iv s.dy,Iv U,Iv (2*q)]:=by
  unfold Yh;rw[if_pos hE];dsimp only;rw[hs,hU,hq]
 rw[hC,hE]at LY;clear hC ht;have HS:=hide (And.intro hs (And.intro hU hq));clear hs hU hq;have HP:=hide (show tP fx fy inb tn leg rad=[xd fx fy s.x1 s.y1 s.cx s.cy rad (U+64800000) (2*q),vF s.x1 s.y1 s.x2 s.y2,xd s.x2 s.y2 s.x3 s.y3 s.dx s.dy rad U (2*q),vF s.x3 s.y3 fx fy] by unfold tP;dsimp only;rw[HS.out.1,HS.out.2.1,HS.out.2.2]);have w1:=wi (x:=U+64800000) DL DL;have w2:=wi (x:= -(2*q)) DL DL;have A1:=fun W=>tQ fx fy s.x1 s.y1 s.cx s.cy rad (U+64800000) (2*q) DP W
 have A2:=fun W=>tQ s.x2 s.y2 s.x3 s.y3 s.dx s.dy rad U (2*q) DP W
 have S1:=fun W=>yU s.x1 s.y1 s.x2 s.y2 W
 have S2:=fun W=>yU s.x3 s.y3 fx fy W
 have hM:=qE w;go_enter Tryz.func63,Tryz.ntmps63;go_upto_region 4 with(first|(refine DU ?_;clear hM;intro g W hM)|(refine qf (LY _) ?_;clear hM;intro W1 hM));refine qu ?_;obtain⟨g,rfl⟩:=Dy hM;refine qP [(g,[Iv fx,Iv fy,Iv s.x1,Iv s.y1,Iv s.x2,Iv s.y2,Iv s.x3,Iv s.y3,Iv s.cx,Iv s.cy,Iv s.dx,Iv s.dy,Iv U,Iv (2*q)],146)] hM DN ?_;(clear hM;intro W hM);refine rD 0 ?_;refine rD 1 ?_;refine rD 2 ?_;refine rD 3 ?_;refine rD 4 ?_;refine rD 5 ?_;refine rD 6 ?_;refine rD 7 ?_;refine rD 8 ?_;refine rD 9 ?_;refine rD 10 ?_;refine rD 11 ?_;refine rD 13 ?_;refine rD 14 ?_;refine rD 15 ?_;refine rD 16 ?_;refine rD 18 ?_;refine rD 19 ?_;refine rD 20 ?_;refine rD 21 ?_;refine rD 22 ?_;refine rD 23 ?_;refine rD 24 ?_;refine rD 25 ?_;refine rD 26 ?_;refine rD 27 ?_;refine rD 28 ?_;refine rD 30 ?_;refine rD 31 ?_;refine rD 32 ?_;refine rD 33 ?_;refine dC 12 (fun K' hK'=> ?_);go_wp2_with(first|(refine qf (A1 _) ?_;clear hM;intro W1 hM)|(refine qf (A2 _) ?_;clear hM;intro W1 hM)|(refine qf (S1 _) ?_;clear hM;intro W1 hM)|(refine qf (S2 _) ?_;clear hM;intro W1 hM));refine rK hK' hM ?_;clear hK' K';refine dC 17 (fun K' hK'=> ?_);go_wp2_with(first|(refine qf (A1 _) ?_;clear hM;intro W1 hM)|(refine qf (A2 _) ?_;clear hM;intro W1 hM)|(refine qf (S1 _) ?_;clear hM;intro W1 hM)|(refine qf (S2 _) ?_;clear hM;intro W1 hM));refine rK hK' hM ?_;clear hK' K';refine dC 29 (fun K' hK'=> ?_);go_wp2_with(first|(refine qf (A1 _) ?_;clear hM;intro W1 hM)|(refine qf (A2 _) ?_;clear hM;intro W1 hM)|(refine qf (S1 _) ?_;clear hM;intro W1 hM)|(refine qf (S2 _) ?_;clear hM;intro W1 hM));refine rK hK' hM ?_;clear hK' K';refine dC 34 (fun K' hK'=> ?_);go_wp2_with(first|(refine qf (A1 _) ?_;clear hM;intro W1 hM)|(refine qf (A2 _) ?_;clear hM;intro W1 hM)|(refine qf (S1 _) ?_;clear hM;intro W1 hM)|(refine qf (S2 _) ?_;clear hM;intro W1 hM));refine rK hK' hM ?_;clear hK' K';refine dC 35 (fun K' hK'=> ?_);refine Pb [xd fx fy s.x1 s.y1 s.cx s.cy rad (U+64800000) (2*q),vF s.x1 s.y1 s.x2 s.y2,xd s.x2 s.y2 s.x3 s.y3 s.dx s.dy rad U (2*q),vF s.x3 s.y3 fx fy] hM ?_;clear hM;intro gB W hM;refine rK hK' hM ?_;clear hK' K';refine rD 36 ?_;refine rD 37 ?_;refine qF DN ?_;go_wp2_with(first|(refine DU ?_;clear hM;intro g W hM))
 all_goals
  go_ret2;exact⟨gB,rfl,by rw[HP.out];exact tE hM⟩
theorem cq(v fx fy inb tn leg rad:Int)(hE:kB fx fy inb tn leg rad=0)(w:World):
 Calls Tryz.prog 61 #[.int .u8 (gW v),.agg #[Iv fx,Iv fy],Iv inb,.int .u8 tn,Iv leg,Iv rad] w fun e w'=>∃V B,e= .returned (.tuple #[V,Iv 0])∧bG V (uJ v fx fy inb tn leg rad) B 3∧qU w w' B:=by
 have LY:=fun W=>JF fx fy inb tn leg rad W
 obtain⟨⟨i1,i2⟩,⟨r1,r2⟩,ht⟩:=YF hE;obtain⟨s,hs⟩:∃s,tO fx fy inb tn leg rad=s:=⟨_,rfl⟩;obtain⟨U,hU⟩:∃U,kz inb tn=U:=⟨_,rfl⟩;obtain⟨q,hq⟩:∃q,tN tn=q:=⟨_,rfl⟩;have qb:q=32400000∨q= -32400000:=by rw[←hq];unfold tN;split<;>omega
 have ub: -32400000≤U∧U≤162000000:=by rw[←hU];unfold kz;rw[hq];omega
 have hC:Yh fx fy inb tn leg rad=[Iv fx,Iv fy,Iv s.x1,Iv s.y1,Iv s.x2,Iv s.y2,Iv s.x3,Iv s.y3,Iv s.cx,Iv s.cy,Iv s.dx,Iv s.dy,Iv U,Iv (2*q)]:=by
  unfold Yh;rw[if_pos hE];dsimp only;rw[hs,hU,hq]
 rw[hC,hE]at LY;clear hC ht;have HS:=hide (And.intro hs (And.intro hU hq));clear hs hU hq;have w1:=wi (x:=U+64800000) DL DL;have w2:=wi (x:= -(2*q)) DL DL;have A1:=fun W=>tQ s.x2 s.y2 s.x3 s.y3 s.dx s.dy rad U (2*q) DP W
 have A2:=fun W=>tQ s.x3 s.y3 s.x2 s.y2 s.dx s.dy rad (U+64800000) (-(2*q)) DP W
 have S1:=fun W=>yU fx fy s.x2 s.y2 W
 have S2:=fun W=>yU s.x3 s.y3 fx fy W
 have S3:=fun W=>yU fx fy s.x3 s.y3 W
 have S4:=fun W=>yU s.x2 s.y2 fx fy W
 have hM:=qE w;rcases Yi v with⟨hk,hv⟩|⟨hk,hv,hv2⟩|⟨hk,hv,hv2⟩
 ·have HP:=hide (show uJ v fx fy inb tn leg rad=[vF fx fy s.x2 s.y2,xd s.x2 s.y2 s.x3 s.y3 s.dx s.dy rad U (2*q),vF s.x3 s.y3 fx fy] by unfold uJ;rw[if_pos hv];(try dsimp only);rw[HS.out.1,HS.out.2.1,HS.out.2.2]);rw[hk];clear hk hv;go_enter Tryz.func61,Tryz.ntmps61;go_upto_region 8 with(first|(refine DU ?_;clear hM;intro g W hM)|(refine qf (LY _) ?_;clear hM;intro W1 hM));refine qu ?_;obtain⟨g,rfl⟩:=Dy hM;refine qP [(g,[Iv fx,Iv fy,Iv s.x1,Iv s.y1,Iv s.x2,Iv s.y2,Iv s.x3,Iv s.y3,Iv s.cx,Iv s.cy,Iv s.dx,Iv s.dy,Iv U,Iv (2*q)],146)] hM DN ?_;(clear hM;intro W hM);refine rD 0 ?_;refine rD 1 ?_;refine rD 2 ?_;refine rD 3 ?_;refine rD 5 ?_;refine rD 6 ?_;refine rD 7 ?_;refine rD 8 ?_;refine rD 9 ?_;refine rD 10 ?_;refine rD 11 ?_;refine rD 12 ?_;refine rD 13 ?_;refine rD 14 ?_;refine rD 15 ?_;refine rD 17 ?_;refine rD 18 ?_;refine rD 19 ?_;refine rD 20 ?_;refine dC 4 (fun K' hK'=> ?_);go_wp2_with(first|(refine qf (A1 _) ?_;clear hM;intro W1 hM)|(refine qf (A2 _) ?_;clear hM;intro W1 hM)|(refine qf (S1 _) ?_;clear hM;intro W1 hM)|(refine qf (S2 _) ?_;clear hM;intro W1 hM)|(refine qf (S3 _) ?_;clear hM;intro W1 hM)|(refine qf (S4 _) ?_;clear hM;intro W1 hM));refine rK hK' hM ?_;clear hK' K';refine dC 16 (fun K' hK'=> ?_);go_wp2_with(first|(refine qf (A1 _) ?_;clear hM;intro W1 hM)|(refine qf (A2 _) ?_;clear hM;intro W1 hM)|(refine qf (S1 _) ?_;clear hM;intro W1 hM)|(refine qf (S2 _) ?_;clear hM;intro W1 hM)|(refine qf (S3 _) ?_;clear hM;intro W1 hM)|(refine qf (S4 _) ?_;clear hM;intro W1 hM));refine rK hK' hM ?_;clear hK' K';refine dC 21 (fun K' hK'=> ?_);go_wp2_with(first|(refine qf (A1 _) ?_;clear hM;intro W1 hM)|(refine qf (A2 _) ?_;clear hM;intro W1 hM)|(refine qf (S1 _) ?_;clear hM;intro W1 hM)|(refine qf (S2 _) ?_;clear hM;intro W1 hM)|(refine qf (S3 _) ?_;clear hM;intro W1 hM)|(refine qf (S4 _) ?_;clear hM;intro W1 hM));refine rK hK' hM ?_;clear hK' K';refine dC 22 (fun K' hK'=> ?_);refine Pb [vF fx fy s.x2 s.y2,xd s.x2 s.y2 s.x3 s.y3 s.dx s.dy rad U (2*q),vF s.x3 s.y3 fx fy] hM ?_;clear hM;intro gB W hM;refine rK hK' hM ?_;clear hK' K';refine rD 23 ?_;refine rD 24 ?_;refine qF DN ?_;go_wp2_with(first|(refine DU ?_;clear hM;intro g W hM))
  all_goals
   go_ret2;exact⟨_,_,rfl,by rw[HP.out];exact bL [vF fx fy s.x2 s.y2,xd s.x2 s.y2 s.x3 s.y3 s.dx s.dy rad U (2*q),vF s.x3 s.y3 fx fy] 3 rfl DQ DQ,tE hM⟩
 ·have HP:=hide (show uJ v fx fy inb tn leg rad=[vF fx fy s.x3 s.y3,xd s.x3 s.y3 s.x2 s.y2 s.dx s.dy rad (U+64800000) (-(2*q)),vF s.x2 s.y2 fx fy] by unfold uJ;rw[if_neg hv,if_pos hv2];(try dsimp only);rw[HS.out.1,HS.out.2.1,HS.out.2.2]);rw[hk];clear hk hv hv2;go_enter Tryz.func61,Tryz.ntmps61;go_upto_region 10 with(first|(refine DU ?_;clear hM;intro g W hM)|(refine qf (LY _) ?_;clear hM;intro W1 hM));refine qu ?_;obtain⟨g,rfl⟩:=Dy hM;refine qP [(g,[Iv fx,Iv fy,Iv s.x1,Iv s.y1,Iv s.x2,Iv s.y2,Iv s.x3,Iv s.y3,Iv s.cx,Iv s.cy,Iv s.dx,Iv s.dy,Iv U,Iv (2*q)],146)] hM DN ?_;(clear hM;intro W hM);refine rD 0 ?_;refine rD 1 ?_;refine rD 2 ?_;refine rD 3 ?_;refine rD 5 ?_;refine rD 6 ?_;refine rD 7 ?_;refine rD 8 ?_;refine rD 9 ?_;refine rD 10 ?_;refine rD 11 ?_;refine rD 12 ?_;refine rD 13 ?_;refine rD 14 ?_;refine rD 15 ?_;refine rD 16 ?_;refine rD 17 ?_;refine rD 19 ?_;refine rD 20 ?_;refine rD 21 ?_;refine rD 22 ?_;refine dC 4 (fun K' hK'=> ?_);go_wp2_with(first|(refine qf (A1 _) ?_;clear hM;intro W1 hM)|(refine qf (A2 _) ?_;clear hM;intro W1 hM)|(refine qf (S1 _) ?_;clear hM;intro W1 hM)|(refine qf (S2 _) ?_;clear hM;intro W1 hM)|(refine qf (S3 _) ?_;clear hM;intro W1 hM)|(refine qf (S4 _) ?_;clear hM;intro W1 hM));refine rK hK' hM ?_;clear hK' K';refine dC 18 (fun K' hK'=> ?_);go_wp2_with(first|(refine qf (A1 _) ?_;clear hM;intro W1 hM)|(refine qf (A2 _) ?_;clear hM;intro W1 hM)|(refine qf (S1 _) ?_;clear hM;intro W1 hM)|(refine qf (S2 _) ?_;clear hM;intro W1 hM)|(refine qf (S3 _) ?_;clear hM;intro W1 hM)|(refine qf (S4 _) ?_;clear hM;intro W1 hM));refine rK hK' hM ?_;clear hK' K';refine dC 23 (fun K' hK'=> ?_);go_wp2_with(first|(refine qf (A1 _) ?_;clear hM;intro W1 hM)|(refine qf (A2 _) ?_;clear hM;intro W1 hM)|(refine qf (S1 _) ?_;clear hM;intro W1 hM)|(refine qf (S2 _) ?_;clear hM;intro W1 hM)|(refine qf (S3 _) ?_;clear hM;intro W1 hM)|(refine qf (S4 _) ?_;clear hM;intro W1 hM));refine rK hK' hM ?_;clear hK' K';refine dC 24 (fun K' hK'=> ?_);refine Pb [vF fx fy s.x3 s.y3,xd s.x3 s.y3 s.x2 s.y2 s.dx s.dy rad (U+64800000) (-(2*q)),vF s.x2 s.y2 fx fy] hM ?_;clear hM;intro gB W hM;refine rK hK' hM ?_;clear hK' K';refine rD 25 ?_;refine rD 26 ?_;refine qF DN ?_;go_wp2_with(first|(refine DU ?_;clear hM;intro g W hM))
  all_goals
   go_ret2;exact⟨_,_,rfl,by rw[HP.out];exact bL [vF fx fy s.x3 s.y3,xd s.x3 s.y3 s.x2 s.y2 s.dx s.dy rad (U+64800000) (-(2*q)),vF s.x2 s.y2 fx fy] 3 rfl DQ DQ,tE hM⟩
 ·have HP:=hide (show uJ v fx fy inb tn leg rad=[] by unfold uJ;rw[if_neg hv,if_neg hv2]);rw[hk];clear hk hv hv2;go_enter Tryz.func61,Tryz.ntmps61;go_wp2_with(first|(refine DU ?_;clear hM;intro g W hM)|(refine qf (LY _) ?_;clear hM;intro W1 hM))
  all_goals
   go_ret2;exact⟨_,[],rfl,by rw[HP.out];exact zG 3,jG hM⟩
set_option maxRecDepth 100000 in
set_option maxHeartbeats 8000000 in
theorem PM(fx fy crs tn dst rad:Int)(w:World):
 Calls Tryz.prog 59 #[.agg #[Iv fx,Iv fy],Iv crs,.int .u8 tn,Iv dst,Iv rad] w fun e w'=>∃V B,e= .returned (.tuple #[V,Iv (vJ fx fy crs tn dst rad).1])∧bG V (vJ fx fy crs tn dst rad).2 B 5∧qU w w' B:=by
 have PV:=fun W=>qL fx fy W
 obtain⟨p0,hp0⟩:∃p0,qw fx fy=p0:=⟨_,rfl⟩;rw[hp0]at PV;have hM:=qE w;go_enter Tryz.func59,Tryz.ntmps59;go_upto_region 0 with fail;refine qu ?_;go_cut [5] (fun s5 wx=>∃gF:Nat,s5= .pointer (some ⟨gF,0,none⟩)∧qU w wx [(gF,[Iv fx,Iv fy],26)])
 case first=>
  go_wp2_with(first|(refine DU ?_;clear hM;intro g W hM))
  all_goals
   go_meet;exact⟨_,rfl,hM⟩
 case rest=>
 clear hM;obtain⟨gF,rfl,hM⟩:=hcut;go_upto_region 1 with(first|(refine DU ?_;clear hM;intro g W hM));go_cut [33] (fun s wx=>s= .bool (!(p0&&(decide (tn=1)||decide (tn=2))))∧qU w wx [(gF,[Iv fx,Iv fy],26)])
 case first=>
  have hcs:p0=false∨(p0=true∧tn=1)∨(p0=true∧tn=2)∨(p0=true∧(tn !=1)=true∧(tn !=2)=true∧decide (tn=1)=false∧decide (tn=2)=false):=by
   rcases p0 with _|_
   ·exact .inl rfl
   ·by_cases h1:tn=1
    ·exact .inr (.inl ⟨rfl,h1⟩)
    ·by_cases h2:tn=2
     ·exact .inr (.inr (.inl ⟨rfl,h2⟩))
     ·exact .inr (.inr (.inr ⟨rfl,by simpa using h1,by simpa using h2,by simpa using h1,by simpa using h2⟩))
  rcases hcs with rfl|⟨rfl,rfl⟩|⟨rfl,rfl⟩|⟨rfl,t1,t2,t3,t4⟩
  all_goals
   go_wp2_with(first|(refine DU ?_;clear hM;intro g W hM)|(refine qf (PV _) ?_;clear hM;intro W1 hM))
   all_goals
    go_meet;exact⟨by simp[*],hM⟩
 case rest=>
 clear hM;obtain⟨rfl,hM⟩:=hcut;clear PV;obtain⟨b,hb⟩:∃b,(p0&&(decide (tn=1)||decide (tn=2)))=b:=⟨_,rfl⟩;rw[hb];have HV:Hid ((qw fx fy&&(decide (tn=1)||decide (tn=2)))=b):=hide (by rw[hp0];exact hb);have ht:b=true→tn=1∨tn=2:=fun h=>by simpa using(Bool.and_eq_true_iff.1 (hb.trans h)).2
 clear hp0 hb;rcases b with _|_
 ·have HE:=hide (Gp (crs:=crs) (dst:=dst) (rad:=rad) HV.out);go_wp2_with(first|(refine DU ?_;clear hM;intro g W hM))
  all_goals
   (go_ret2;first|exact⟨.slice none 0 0,[],by rw[HE.out];rfl,by rw[HE.out];exact zG 5,jG hM⟩|exact⟨.slice none 0 0,by rw[HE.out];rfl,[],by rw[HE.out];exact zG 5,jG hM⟩)
 replace ht:=ht rfl;by_cases hr:crs<0∨crs≥129600000∨dst<1∨dst>2000000∨rad<1∨rad>666666
 ·have HE:=hide (Gq (crs:=crs) (dst:=dst) (rad:=rad) HV.out hr);rcases(show(crs<0)∨(¬crs<0∧129600000≤crs)∨(¬crs<0∧¬129600000≤crs∧dst<1)∨(¬crs<0∧¬129600000≤crs∧¬dst<1∧2000000<dst)∨(¬crs<0∧¬129600000≤crs∧¬dst<1∧¬2000000<dst∧rad<1)∨(¬crs<0∧¬129600000≤crs∧¬dst<1∧¬2000000<dst∧¬rad<1∧666666<rad) by omega)with r1|⟨r1,r2⟩|⟨r1,r2,r3⟩|⟨r1,r2,r3,r4⟩|⟨r1,r2,r3,r4,r5⟩|⟨r1,r2,r3,r4,r5,r6⟩
  all_goals
   clear hr;go_wp2_with(first|(refine DU ?_;clear hM;intro g W hM))
   all_goals
    (go_ret2;first|exact⟨.slice none 0 0,[],by rw[HE.out];rfl,by rw[HE.out];exact zG 5,jG hM⟩|exact⟨.slice none 0 0,by rw[HE.out];rfl,[],by rw[HE.out];exact zG 5,jG hM⟩)
 have HRG:=hide hr;have hrr:¬crs<0∧¬129600000≤crs∧¬dst<1∧¬2000000<dst∧¬rad<1∧¬666666<rad:=DL;obtain⟨r1,r2,r3,r4,r5,r6⟩:=hrr;clear hr;obtain⟨md,hmd⟩:∃md,vW 2 (2*rad*1414213562) 1000000000=md:=⟨_,rfl⟩
 have e0:md=(2*(2*rad*1414213562)+1000000000)/(2*1000000000):=by
  rw[←hmd];unfold vW;rw[if_neg DQ,if_neg DQ];rw[Int.fdiv_eq_ediv_of_nonneg _ DQ]
 have mdv:qR 2 (2*rad) 1414213562 1000000000=(md,0):=by
  unfold qR;rw[if_neg DQ,hmd,if_pos];exact decide_eq_true DL
 have RD:=fun W=>vD (2*rad) 1414213562 1000000000 DP DP DP W
 rw[mdv]at RD;have mb:0≤md∧md≤4000000:=DL;obtain⟨q,hq⟩:∃q,tN tn=q:=⟨_,rfl⟩;obtain⟨v,hv⟩:∃v,wu crs tn=v:=⟨_,rfl⟩;obtain⟨n,hn⟩:∃n,ww crs tn=n:=⟨_,rfl⟩;obtain⟨u,hu⟩:∃u,-(2*tN tn)=u:=⟨_,rfl⟩
 have hvn:(tn=1∧v=crs-16200000∧n=crs+16200000∧u=64800000)∨(tn=2∧v=crs+16200000∧n=crs-16200000∧u= -64800000):=by
  rw[←hv,←hn,←hu];unfold ww wu;rcases ht with rfl|rfl
  ·exact .inl ⟨rfl,by show crs+Int.tdiv (-32400000) 2=_;rw[show Int.tdiv (-32400000) 2= -16200000 from by decide];omega,by show crs+Int.tdiv (-32400000) 2-(-32400000)=_;rw[show Int.tdiv (-32400000) 2= -16200000 from by decide];omega,rfl⟩
  ·exact .inr ⟨rfl,by show crs+Int.tdiv 32400000 2=_;rw[show Int.tdiv 32400000 2=16200000 from by decide],by show crs+Int.tdiv 32400000 2-32400000=_;rw[show Int.tdiv 32400000 2=16200000 from by decide];omega,rfl⟩
 have HM:=hide (And.intro hv (And.intro hn (And.intro hmd hu)));clear hv hn hmd mdv hu e0 hq ht q;have vn1: -16200000≤v-crs∧v-crs≤16200000∧ -16200000≤n-crs∧n-crs≤16200000∧ -64800000≤u∧u≤64800000:=DL;go_upto_region 5 with(first|(refine DU ?_;clear hM;intro g W hM));refine qu ?_;go_cut [12,13,14] (fun s12 s13 s14 wx=>s12=Iv (crs+16200000)∧s13=Iv (crs-16200000)∧s14=Iv (-64800000)∧qU w wx [(gF,[Iv fx,Iv fy],26)])
 case first=>
  have w1:=IntWalk.i64_in (crs+16200000) DL;have w2:=IntWalk.i64_in (crs-16200000) DL;go_wp2_with(first|(refine DU ?_;clear hM;intro g W hM))
  all_goals
   go_meet;exact⟨rfl,rfl,rfl,hM⟩
 case rest=>
 clear hM;obtain⟨rfl,rfl,rfl,hM⟩:=hcut;go_upto_if 61 with(first|(refine DU ?_;clear hM;intro g W hM));refine qu ?_;go_cut [12,13,14] (fun s12 s13 s14 wx=>s12=Iv v∧s13=Iv n∧s14=Iv u∧qU w wx [(gF,[Iv fx,Iv fy],26)])
 case first=>
  rcases hvn with⟨rfl,rfl,rfl,rfl⟩|⟨rfl,rfl,rfl,rfl⟩
  all_goals
   have w1:=IntWalk.i64_in (crs+16200000) DL;have w2:=IntWalk.i64_in (crs-16200000) DL;go_wp2_with(first|(refine DU ?_;clear hM;intro g W hM))
   all_goals
    go_meet;exact⟨rfl,rfl,rfl,hM⟩
 case rest=>
 clear hM hvn;obtain⟨rfl,rfl,rfl,hM⟩:=hcut;have w3:=IntWalk.i64_in (2*rad) DL;have w5:=IntWalk.i64_in (3*rad) DL;have w6:=IntWalk.i64_in (n+64800000) DL;obtain⟨qx,qy,e1,h1⟩:∃qx qy e1,zi fx fy crs dst=(qx,qy,e1):=⟨_,_,_,rfl⟩;obtain⟨sx,sy,e2,h2⟩:∃sx sy e2,zi qx qy v (3*rad)=(sx,sy,e2):=⟨_,_,_,rfl⟩;obtain⟨cx,cy,e3,h3⟩:∃cx cy e3,zi sx sy n rad=(cx,cy,e3):=⟨_,_,_,rfl⟩;obtain⟨tx,ty,e4,h4⟩:∃tx ty e4,zi sx sy n (2*rad)=(tx,ty,e4):=⟨_,_,_,rfl⟩;obtain⟨mx,my,e5,h5⟩:∃mx my e5,zi qx qy crs md=(mx,my,e5):=⟨_,_,_,rfl⟩;have i1:qK crs:=DP;have i2:qK dst:=DP;have i3:qK v:=DP;have i4:qK (3*rad):=DP;have i5:qK n:=DP;have i6:qK rad:=DP;have i7:qK (2*rad):=DP;have i8:qK md:=DP
 have HE:=hide (show vJ fx fy crs tn dst rad=if(e1=0∧e2=0∧e3=0∧e4=0∧e5=0)then(0,[vF fx fy qx qy,vF qx qy sx sy,xd sx sy tx ty cx cy rad (n+64800000) u,vF tx ty mx my,vF mx my fx fy])else(2,[]) by
  unfold vJ;rw[if_neg (by rw[HV.out];simp),if_neg HRG.out];dsimp only;rw[HM.out.1,HM.out.2.1,HM.out.2.2.1,HM.out.2.2.2,h1];dsimp only;rw[h2,h5];dsimp only
  rw[h3,h4])
 have H1:=hide h1;have H2:=hide h2;have H3:=hide h3;have H4:=hide h4;have H5:=hide h5;clear h1 h2 h3 h4 h5 HV HRG HM;go_upto_region 14 with(first|(refine DU ?_;clear hM;intro g W hM)|(refine JL (RD _) ?_;clear hM;intro n1 hM)|(go_at_call 125;(with_reducible refine cE hM (fun R' hM'=>uO fx fy crs dst qx qy e1 i1 i2 H1.out hM') ?_);clear hM H1;intro W1 hM;simp only[List.cons_append,List.nil_append]at hM)|(go_at_call 125;(with_reducible refine cE hM (fun R' hM'=>uO qx qy v (3*rad) sx sy e2 i3 i4 H2.out hM') ?_);clear hM H2;intro W1 hM;simp only[List.cons_append,List.nil_append]at hM)|(go_at_call 125;(with_reducible refine cE hM (fun R' hM'=>uO sx sy n rad cx cy e3 i5 i6 H3.out hM') ?_);clear hM H3;intro W1 hM;simp only[List.cons_append,List.nil_append]at hM)|(go_at_call 125;(with_reducible refine cE hM (fun R' hM'=>uO sx sy n (2*rad) tx ty e4 i5 i7 H4.out hM') ?_);clear hM H4;intro W1 hM;simp only[List.cons_append,List.nil_append]at hM)|(go_at_call 125;(with_reducible refine cE hM (fun R' hM'=>uO qx qy crs md mx my e5 i1 i8 H5.out hM') ?_);clear hM H5;intro W1 hM;simp only[List.cons_append,List.nil_append]at hM));refine qu ?_;go_cut [15,22,19,18,17,16] (fun s15 s22 s19 s18 s17 s16 wx=>∃gb g22 g21 g20 g19 g18:Nat,s15= .pointer (some ⟨gb,0,none⟩)∧s22= .pointer (some ⟨g22,0,none⟩)∧s19= .pointer (some ⟨g21,0,none⟩)∧s18= .pointer (some ⟨g20,0,none⟩)∧s17= .pointer (some ⟨g19,0,none⟩)∧s16= .pointer (some ⟨g18,0,none⟩)∧qU w wx ((g22,[Iv mx,Iv my],26)::(g21,[Iv tx,Iv ty],26)::(g20,[Iv cx,Iv cy],26)::(g19,[Iv sx,Iv sy],26)::(g18,[Iv qx,Iv qy],26)::(gb,[.bool (((((true&&(e1==0))&&(e2==0))&&(e3==0))&&(e4==0))&&(e5==0))],4)::[(gF,[Iv fx,Iv fy],26)]))
 case first=>
  go_wp2_with(first|(refine DU ?_;clear hM;intro g W hM)|(go_at_call 125;(with_reducible refine cE hM (fun R' hM'=>uO fx fy crs dst qx qy e1 i1 i2 H1.out hM') ?_);clear hM H1;intro W1 hM;simp only[List.cons_append,List.nil_append]at hM)|(go_at_call 125;(with_reducible refine cE hM (fun R' hM'=>uO qx qy v (3*rad) sx sy e2 i3 i4 H2.out hM') ?_);clear hM H2;intro W1 hM;simp only[List.cons_append,List.nil_append]at hM)|(go_at_call 125;(with_reducible refine cE hM (fun R' hM'=>uO sx sy n rad cx cy e3 i5 i6 H3.out hM') ?_);clear hM H3;intro W1 hM;simp only[List.cons_append,List.nil_append]at hM)|(go_at_call 125;(with_reducible refine cE hM (fun R' hM'=>uO sx sy n (2*rad) tx ty e4 i5 i7 H4.out hM') ?_);clear hM H4;intro W1 hM;simp only[List.cons_append,List.nil_append]at hM)|(go_at_call 125;(with_reducible refine cE hM (fun R' hM'=>uO qx qy crs md mx my e5 i1 i8 H5.out hM') ?_);clear hM H5;intro W1 hM;simp only[List.cons_append,List.nil_append]at hM))
  all_goals
   go_meet;exact⟨_,_,_,_,_,_,rfl,rfl,rfl,rfl,rfl,rfl,hM⟩
 case rest=>
 clear hM;obtain⟨gb,g22,g21,g20,g19,g18,rfl,rfl,rfl,rfl,rfl,rfl,hM⟩:=hcut;obtain⟨ok,hok⟩:∃ok,(((((true&&(e1==0))&&(e2==0))&&(e3==0))&&(e4==0))&&(e5==0))=ok:=⟨_,rfl⟩;rw[hok]at hM;by_cases hg:e1=0∧e2=0∧e3=0∧e4=0∧e5=0;rotate_left 1
 ·have HZ:=hide (HE.out.trans (if_neg hg))
  obtain rfl:ok=false:=by
   rw[←hok,Bool.eq_false_iff];intro h;simp at h;exact hg ⟨h.1.1.1.1,h.1.1.1.2,h.1.1.2,h.1.2,h.2⟩
  clear hok hg HE;go_wp2_with(first|(refine DU ?_;clear hM;intro g W hM))
  all_goals
   (go_ret2;first|exact⟨.slice none 0 0,[],by rw[HZ.out];rfl,by rw[HZ.out];exact zG 5,jG hM⟩|exact⟨.slice none 0 0,by rw[HZ.out];rfl,[],by rw[HZ.out];exact zG 5,jG hM⟩)
 have HZ:=hide (HE.out.trans (if_pos hg));obtain⟨rfl,rfl,rfl,rfl,rfl⟩:=hg;obtain rfl:ok=true:=hok.symm.trans rfl;clear hok HE;have A1:=fun W=>tQ sx sy tx ty cx cy rad (n+64800000) u DP W
 have S1:=fun W=>yU fx fy qx qy W
 have S2:=fun W=>yU qx qy sx sy W
 have S3:=fun W=>yU tx ty mx my W
 have S4:=fun W=>yU mx my fx fy W
 go_upto_region 17 with(first|(refine DU ?_;clear hM;intro g W hM));refine qu ?_;refine qP [(g22,[Iv mx,Iv my],26),(g21,[Iv tx,Iv ty],26),(g20,[Iv cx,Iv cy],26),(g19,[Iv sx,Iv sy],26),(g18,[Iv qx,Iv qy],26),(gF,[Iv fx,Iv fy],26)] hM DN ?_;(clear hM;intro W hM);refine rD 0 ?_;refine rD 1 ?_;refine rD 3 ?_;refine rD 4 ?_;refine rD 6 ?_;refine rD 7 ?_;refine rD 8 ?_;refine rD 9 ?_;refine rD 10 ?_;refine rD 11 ?_;refine rD 12 ?_;refine rD 14 ?_;refine rD 15 ?_;refine rD 17 ?_;refine rD 18 ?_;refine dC 2 (fun K' hK'=> ?_);go_wp2_with(first|(refine qf (A1 _) ?_;clear hM;intro W1 hM)|(refine qf (S1 _) ?_;clear hM;intro W1 hM)|(refine qf (S2 _) ?_;clear hM;intro W1 hM)|(refine qf (S3 _) ?_;clear hM;intro W1 hM)|(refine qf (S4 _) ?_;clear hM;intro W1 hM));refine rK hK' hM ?_;clear hK' K';refine dC 5 (fun K' hK'=> ?_);go_wp2_with(first|(refine qf (A1 _) ?_;clear hM;intro W1 hM)|(refine qf (S1 _) ?_;clear hM;intro W1 hM)|(refine qf (S2 _) ?_;clear hM;intro W1 hM)|(refine qf (S3 _) ?_;clear hM;intro W1 hM)|(refine qf (S4 _) ?_;clear hM;intro W1 hM));refine rK hK' hM ?_;clear hK' K';refine dC 13 (fun K' hK'=> ?_);go_wp2_with(first|(refine qf (A1 _) ?_;clear hM;intro W1 hM)|(refine qf (S1 _) ?_;clear hM;intro W1 hM)|(refine qf (S2 _) ?_;clear hM;intro W1 hM)|(refine qf (S3 _) ?_;clear hM;intro W1 hM)|(refine qf (S4 _) ?_;clear hM;intro W1 hM));refine rK hK' hM ?_;clear hK' K';refine dC 16 (fun K' hK'=> ?_);go_wp2_with(first|(refine qf (A1 _) ?_;clear hM;intro W1 hM)|(refine qf (S1 _) ?_;clear hM;intro W1 hM)|(refine qf (S2 _) ?_;clear hM;intro W1 hM)|(refine qf (S3 _) ?_;clear hM;intro W1 hM)|(refine qf (S4 _) ?_;clear hM;intro W1 hM));refine rK hK' hM ?_;clear hK' K';refine dC 19 (fun K' hK'=> ?_);go_wp2_with(first|(refine qf (A1 _) ?_;clear hM;intro W1 hM)|(refine qf (S1 _) ?_;clear hM;intro W1 hM)|(refine qf (S2 _) ?_;clear hM;intro W1 hM)|(refine qf (S3 _) ?_;clear hM;intro W1 hM)|(refine qf (S4 _) ?_;clear hM;intro W1 hM));refine rK hK' hM ?_;clear hK' K';refine dC 20 (fun K' hK'=> ?_);refine Pb [vF fx fy qx qy,vF qx qy sx sy,xd sx sy tx ty cx cy rad (n+64800000) u,vF tx ty mx my,vF mx my fx fy] hM ?_;clear hM;intro gB W hM;refine rK hK' hM ?_;clear hK' K';refine rD 21 ?_;refine rD 22 ?_;refine qF DN ?_;go_wp2_with(first|(refine DU ?_;clear hM;intro g W hM))
 all_goals
  go_ret2
  first
   |exact⟨_,_,by rw[HZ.out];rfl,by rw[HZ.out];exact bL [vF fx fy qx qy,vF qx qy sx sy,xd sx sy tx ty cx cy rad (n+64800000) u,vF tx ty mx my,vF mx my fx fy] 5 rfl DQ DQ,tE hM⟩
   |exact⟨_,by rw[HZ.out];rfl,_,by rw[HZ.out];exact bL [vF fx fy qx qy,vF qx qy sx sy,xd sx sy tx ty cx cy rad (n+64800000) u,vF tx ty mx my,vF mx my fx fy] 5 rfl DQ DQ,tE hM⟩
end Go.Proofs.YtcgpbnlhnafhjaaGreatDoor
