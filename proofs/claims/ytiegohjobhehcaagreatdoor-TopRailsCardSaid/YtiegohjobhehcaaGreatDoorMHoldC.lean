/-
  Patterns and how they are entered, by boxes.
-/
import Derived.Test.YtiegohjobhehcaaGreatDoorMHoldA
set_option maxRecDepth 100000
set_option maxHeartbeats 16000000
namespace Go.Proofs.YtiegohjobhehcaaGreatDoor
open Go.RowKit
set_option linter.unusedVariables false
set_option linter.unusedSimpArgs false
theorem VG{w W:World}{e:qZ}{L:List qZ}(h:qF w W (e::L)):qF w W [e]:=
 ⟨h.below,fun g cs t hm=>h.rows g cs t (by rw[List.mem_singleton.1 hm];exact .head _),jL⟩
theorem vq{w W:World}{L:List qZ}(h:qF w W L):qF w W []:=⟨h.below,(fun _ _ _ h=>by cases h),List.nodup_nil⟩
theorem mZ{fx fy inb tn leg rad:Int}(h:bS fx fy inb tn leg rad=0):(0≤inb∧inb<129600000)∧(1≤rad∧rad≤2000000)∧(tn=1∨tn=2):=by
 unfold bS at h;split at h
 ·cases h
 rename_i h1;split at h
 ·cases h
 refine⟨qg,qg,?_⟩
 have:(qw fx fy&&(decide (tn=1)||decide (tn=2)))=true:=by
  rcases hq:(qw fx fy&&(decide (tn=1)||decide (tn=2)))with _|_
  ·exact absurd hq h1
  ·rfl
 have:=(Bool.and_eq_true_iff.1 this).2;simpa using this
theorem Gk(v:Int):(Jt v=3∧v<25200000)∨(Jt v=2∧¬v<25200000∧v≥90000000)∨(Jt v=1∧¬v<25200000∧¬v≥90000000):=by
 unfold Jt;split
 ·exact .inl ⟨rfl,qY⟩
 ·split
  ·exact .inr (.inl ⟨rfl,by assumption,qY⟩)
  ·exact .inr (.inr ⟨rfl,by assumption,qY⟩)
theorem fM(k fx fy inb tn leg rad e0:Int)(hE:bS fx fy inb tn leg rad=e0)(h0:e0≠0)(w:World):
 Calls Tryz.prog 43 #[.int .u8 k,.agg #[Iv fx,Iv fy],Iv inb,.int .u8 tn,Iv leg,Iv rad] w fun e w'=>e= .returned (.tuple #[.slice none 0 0,Iv e0])∧Below w.heap.size w w':=by
 have LY:=fun W=>VF fx fy inb tn leg rad W
 rw[uG hE h0,hE]at LY;have h1:(e0 !=0)=true:=by simpa using h0
 clear hE h0;have hM:=qo w;go_enter Tryz.func43,Tryz.ntmps43;go_wp2_with(first|(refine qe ?_;clear hM;intro g W hM)|(refine qt (LY _) ?_;clear hM;intro W1 hM))
 all_goals
  go_ret2;exact⟨rfl,hM.below⟩
theorem wI(fx fy inb tn leg rad:Int)(hE:bS fx fy inb tn leg rad=0)(w:World):
 Calls Tryz.prog 45 #[.agg #[Iv fx,Iv fy],Iv inb,.int .u8 tn,Iv leg,Iv rad] w fun e w'=>∃g:Nat,e= .returned (.tuple #[.slice (some ⟨g,0,none⟩) 4 4,Iv 0])∧qF w w' [(g,(Jk fx fy inb tn leg rad).flatMap El.cells,53)]:=by
 have LY:=fun W=>VF fx fy inb tn leg rad W
 obtain⟨⟨i1,i2⟩,⟨r1,r2⟩,ht⟩:=mZ hE;obtain⟨s,hs⟩:∃s,QC fx fy inb tn leg rad=s:=⟨_,rfl⟩;obtain⟨U,hU⟩:∃U,uR inb tn=U:=⟨_,rfl⟩;obtain⟨q,hq⟩:∃q,Yg tn=q:=⟨_,rfl⟩;have qb:q=32400000∨q= -32400000:=by rw[←hq];unfold Yg;split<;>omega
 have ub: -32400000≤U∧U≤162000000:=by rw[←hU];unfold uR;rw[hq];omega
 have hC:Gj fx fy inb tn leg rad=[Iv fx,Iv fy,Iv s.x1,Iv s.y1,Iv s.x2,Iv s.y2,Iv s.x3,Iv s.y3,Iv s.cx,Iv s.cy,Iv s.dx,Iv s.dy,Iv U,Iv rad,Iv (2*q)]:=by
  unfold Gj;rw[if_pos hE];dsimp only;rw[hs,hU,hq]
 rw[hC,hE]at LY;clear hC ht;have HS:=hide (And.intro hs (And.intro hU hq));clear hs hU hq;have HP:=hide (show Jk fx fy inb tn leg rad=[KC fx fy s.x1 s.y1 s.cx s.cy rad (U+64800000) (2*q),tK s.x1 s.y1 s.x2 s.y2,KC s.x2 s.y2 s.x3 s.y3 s.dx s.dy rad U (2*q),tK s.x3 s.y3 fx fy] by unfold Jk;dsimp only;rw[HS.out.1,HS.out.2.1,HS.out.2.2]);have w1:=wi (x:=U+64800000) qg qg;have w2:=wi (x:= -(2*q)) qg qg;have A1:=fun W=>QJ fx fy s.x1 s.y1 s.cx s.cy rad (U+64800000) (2*q) yq W
 have A2:=fun W=>QJ s.x2 s.y2 s.x3 s.y3 s.dx s.dy rad U (2*q) yq W
 have S1:=fun W=>ug s.x1 s.y1 s.x2 s.y2 W
 have S2:=fun W=>ug s.x3 s.y3 fx fy W
 have hM:=qo w;go_enter Tryz.func45,Tryz.ntmps45;go_upto_region 4 with(first|(refine qe ?_;clear hM;intro g W hM)|(refine qt (LY _) ?_;clear hM;intro W1 hM));refine qj ?_;obtain⟨g,rfl⟩:=uC hM;refine qA [(g,[Iv fx,Iv fy,Iv s.x1,Iv s.y1,Iv s.x2,Iv s.y2,Iv s.x3,Iv s.y3,Iv s.cx,Iv s.cy,Iv s.dx,Iv s.dy,Iv U,Iv rad,Iv (2*q)],182)] hM qM ?_;(clear hM;intro W hM);refine rD 0 ?_;refine rD 1 ?_;refine rD 2 ?_;refine rD 3 ?_;refine rD 4 ?_;refine rD 5 ?_;refine rD 6 ?_;refine rD 7 ?_;refine rD 8 ?_;refine rD 9 ?_;refine rD 10 ?_;refine rD 11 ?_;refine rD 12 ?_;refine rD 13 ?_;refine rD 15 ?_;refine rD 16 ?_;refine rD 17 ?_;refine rD 18 ?_;refine rD 19 ?_;refine rD 20 ?_;refine rD 22 ?_;refine rD 23 ?_;refine rD 24 ?_;refine rD 25 ?_;refine rD 26 ?_;refine rD 27 ?_;refine rD 28 ?_;refine rD 29 ?_;refine rD 30 ?_;refine rD 31 ?_;refine rD 32 ?_;refine rD 33 ?_;refine rD 34 ?_;refine rD 36 ?_;refine rD 37 ?_;refine rD 38 ?_;refine rD 39 ?_;refine rD 40 ?_;refine rD 41 ?_;refine dC 14 (fun K' hK'=> ?_);go_wp2_with(first|(refine qt (A1 _) ?_;clear hM;intro W1 hM)|(refine qt (A2 _) ?_;clear hM;intro W1 hM)|(refine qt (S1 _) ?_;clear hM;intro W1 hM)|(refine qt (S2 _) ?_;clear hM;intro W1 hM));refine rK hK' hM ?_;clear hK' K';refine dC 21 (fun K' hK'=> ?_);go_wp2_with(first|(refine qt (A1 _) ?_;clear hM;intro W1 hM)|(refine qt (A2 _) ?_;clear hM;intro W1 hM)|(refine qt (S1 _) ?_;clear hM;intro W1 hM)|(refine qt (S2 _) ?_;clear hM;intro W1 hM));refine rK hK' hM ?_;clear hK' K';refine dC 35 (fun K' hK'=> ?_);go_wp2_with(first|(refine qt (A1 _) ?_;clear hM;intro W1 hM)|(refine qt (A2 _) ?_;clear hM;intro W1 hM)|(refine qt (S1 _) ?_;clear hM;intro W1 hM)|(refine qt (S2 _) ?_;clear hM;intro W1 hM));refine rK hK' hM ?_;clear hK' K';refine dC 42 (fun K' hK'=> ?_);go_wp2_with(first|(refine qt (A1 _) ?_;clear hM;intro W1 hM)|(refine qt (A2 _) ?_;clear hM;intro W1 hM)|(refine qt (S1 _) ?_;clear hM;intro W1 hM)|(refine qt (S2 _) ?_;clear hM;intro W1 hM));refine rK hK' hM ?_;clear hK' K';refine dC 43 (fun K' hK'=> ?_);refine EM [KC fx fy s.x1 s.y1 s.cx s.cy rad (U+64800000) (2*q),tK s.x1 s.y1 s.x2 s.y2,KC s.x2 s.y2 s.x3 s.y3 s.dx s.dy rad U (2*q),tK s.x3 s.y3 fx fy] hM ?_;clear hM;intro gB W hM;refine rK hK' hM ?_;clear hK' K';refine rD 44 ?_;refine rD 45 ?_;refine qp qM ?_;go_wp2_with(first|(refine qe ?_;clear hM;intro g W hM))
 all_goals
  go_ret2;exact⟨gB,rfl,by rw[HP.out];exact VG hM⟩
theorem iL(v fx fy inb tn leg rad:Int)(hE:bS fx fy inb tn leg rad=0)(w:World):
 Calls Tryz.prog 43 #[.int .u8 (Jt v),.agg #[Iv fx,Iv fy],Iv inb,.int .u8 tn,Iv leg,Iv rad] w fun e w'=>∃V B,e= .returned (.tuple #[V,Iv 0])∧tO V (ZN v fx fy inb tn leg rad) B 3∧qF w w' B:=by
 have LY:=fun W=>VF fx fy inb tn leg rad W
 obtain⟨⟨i1,i2⟩,⟨r1,r2⟩,ht⟩:=mZ hE;obtain⟨s,hs⟩:∃s,QC fx fy inb tn leg rad=s:=⟨_,rfl⟩;obtain⟨U,hU⟩:∃U,uR inb tn=U:=⟨_,rfl⟩;obtain⟨q,hq⟩:∃q,Yg tn=q:=⟨_,rfl⟩;have qb:q=32400000∨q= -32400000:=by rw[←hq];unfold Yg;split<;>omega
 have ub: -32400000≤U∧U≤162000000:=by rw[←hU];unfold uR;rw[hq];omega
 have hC:Gj fx fy inb tn leg rad=[Iv fx,Iv fy,Iv s.x1,Iv s.y1,Iv s.x2,Iv s.y2,Iv s.x3,Iv s.y3,Iv s.cx,Iv s.cy,Iv s.dx,Iv s.dy,Iv U,Iv rad,Iv (2*q)]:=by
  unfold Gj;rw[if_pos hE];dsimp only;rw[hs,hU,hq]
 rw[hC,hE]at LY;clear hC ht;have HS:=hide (And.intro hs (And.intro hU hq));clear hs hU hq;have w1:=wi (x:=U+64800000) qg qg;have w2:=wi (x:= -(2*q)) qg qg;have A1:=fun W=>QJ s.x2 s.y2 s.x3 s.y3 s.dx s.dy rad U (2*q) yq W
 have A2:=fun W=>QJ s.x3 s.y3 s.x2 s.y2 s.dx s.dy rad (U+64800000) (-(2*q)) yq W
 have S1:=fun W=>ug fx fy s.x2 s.y2 W
 have S2:=fun W=>ug s.x3 s.y3 fx fy W
 have S3:=fun W=>ug fx fy s.x3 s.y3 W
 have S4:=fun W=>ug s.x2 s.y2 fx fy W
 have hM:=qo w;rcases Gk v with⟨hk,hv⟩|⟨hk,hv,hv2⟩|⟨hk,hv,hv2⟩
 ·have HP:=hide (show ZN v fx fy inb tn leg rad=[tK fx fy s.x2 s.y2,KC s.x2 s.y2 s.x3 s.y3 s.dx s.dy rad U (2*q),tK s.x3 s.y3 fx fy] by unfold ZN;rw[if_pos hv];(try dsimp only);rw[HS.out.1,HS.out.2.1,HS.out.2.2]);rw[hk];clear hk hv;go_enter Tryz.func43,Tryz.ntmps43;go_upto_region 8 with(first|(refine qe ?_;clear hM;intro g W hM)|(refine qt (LY _) ?_;clear hM;intro W1 hM));refine qj ?_;obtain⟨g,rfl⟩:=uC hM;refine qA [(g,[Iv fx,Iv fy,Iv s.x1,Iv s.y1,Iv s.x2,Iv s.y2,Iv s.x3,Iv s.y3,Iv s.cx,Iv s.cy,Iv s.dx,Iv s.dy,Iv U,Iv rad,Iv (2*q)],182)] hM qM ?_;(clear hM;intro W hM);refine rD 0 ?_;refine rD 1 ?_;refine rD 2 ?_;refine rD 3 ?_;refine rD 4 ?_;refine rD 5 ?_;refine rD 7 ?_;refine rD 8 ?_;refine rD 9 ?_;refine rD 10 ?_;refine rD 11 ?_;refine rD 12 ?_;refine rD 13 ?_;refine rD 14 ?_;refine rD 15 ?_;refine rD 16 ?_;refine rD 17 ?_;refine rD 18 ?_;refine rD 19 ?_;refine rD 21 ?_;refine rD 22 ?_;refine rD 23 ?_;refine rD 24 ?_;refine rD 25 ?_;refine rD 26 ?_;refine dC 6 (fun K' hK'=> ?_);go_wp2_with(first|(refine qt (A1 _) ?_;clear hM;intro W1 hM)|(refine qt (A2 _) ?_;clear hM;intro W1 hM)|(refine qt (S1 _) ?_;clear hM;intro W1 hM)|(refine qt (S2 _) ?_;clear hM;intro W1 hM)|(refine qt (S3 _) ?_;clear hM;intro W1 hM)|(refine qt (S4 _) ?_;clear hM;intro W1 hM));refine rK hK' hM ?_;clear hK' K';refine dC 20 (fun K' hK'=> ?_);go_wp2_with(first|(refine qt (A1 _) ?_;clear hM;intro W1 hM)|(refine qt (A2 _) ?_;clear hM;intro W1 hM)|(refine qt (S1 _) ?_;clear hM;intro W1 hM)|(refine qt (S2 _) ?_;clear hM;intro W1 hM)|(refine qt (S3 _) ?_;clear hM;intro W1 hM)|(refine qt (S4 _) ?_;clear hM;intro W1 hM));refine rK hK' hM ?_;clear hK' K';refine dC 27 (fun K' hK'=> ?_);go_wp2_with(first|(refine qt (A1 _) ?_;clear hM;intro W1 hM)|(refine qt (A2 _) ?_;clear hM;intro W1 hM)|(refine qt (S1 _) ?_;clear hM;intro W1 hM)|(refine qt (S2 _) ?_;clear hM;intro W1 hM)|(refine qt (S3 _) ?_;clear hM;intro W1 hM)|(refine qt (S4 _) ?_;clear hM;intro W1 hM));refine rK hK' hM ?_;clear hK' K';refine dC 28 (fun K' hK'=> ?_);refine EM [tK fx fy s.x2 s.y2,KC s.x2 s.y2 s.x3 s.y3 s.dx s.dy rad U (2*q),tK s.x3 s.y3 fx fy] hM ?_;clear hM;intro gB W hM;refine rK hK' hM ?_;clear hK' K';refine rD 29 ?_;refine rD 30 ?_;refine qp qM ?_;go_wp2_with(first|(refine qe ?_;clear hM;intro g W hM))
  all_goals
   go_ret2;exact⟨_,_,rfl,by rw[HP.out];exact Vh [tK fx fy s.x2 s.y2,KC s.x2 s.y2 s.x3 s.y3 s.dx s.dy rad U (2*q),tK s.x3 s.y3 fx fy] 3 rfl qG qG,VG hM⟩
 ·have HP:=hide (show ZN v fx fy inb tn leg rad=[tK fx fy s.x3 s.y3,KC s.x3 s.y3 s.x2 s.y2 s.dx s.dy rad (U+64800000) (-(2*q)),tK s.x2 s.y2 fx fy] by unfold ZN;rw[if_neg hv,if_pos hv2];(try dsimp only);rw[HS.out.1,HS.out.2.1,HS.out.2.2]);rw[hk];clear hk hv hv2;go_enter Tryz.func43,Tryz.ntmps43;go_upto_region 10 with(first|(refine qe ?_;clear hM;intro g W hM)|(refine qt (LY _) ?_;clear hM;intro W1 hM));refine qj ?_;obtain⟨g,rfl⟩:=uC hM;refine qA [(g,[Iv fx,Iv fy,Iv s.x1,Iv s.y1,Iv s.x2,Iv s.y2,Iv s.x3,Iv s.y3,Iv s.cx,Iv s.cy,Iv s.dx,Iv s.dy,Iv U,Iv rad,Iv (2*q)],182)] hM qM ?_;(clear hM;intro W hM);refine rD 0 ?_;refine rD 1 ?_;refine rD 2 ?_;refine rD 3 ?_;refine rD 4 ?_;refine rD 5 ?_;refine rD 7 ?_;refine rD 8 ?_;refine rD 9 ?_;refine rD 10 ?_;refine rD 11 ?_;refine rD 12 ?_;refine rD 13 ?_;refine rD 14 ?_;refine rD 15 ?_;refine rD 16 ?_;refine rD 17 ?_;refine rD 18 ?_;refine rD 19 ?_;refine rD 20 ?_;refine rD 21 ?_;refine rD 23 ?_;refine rD 24 ?_;refine rD 25 ?_;refine rD 26 ?_;refine rD 27 ?_;refine rD 28 ?_;refine dC 6 (fun K' hK'=> ?_);go_wp2_with(first|(refine qt (A1 _) ?_;clear hM;intro W1 hM)|(refine qt (A2 _) ?_;clear hM;intro W1 hM)|(refine qt (S1 _) ?_;clear hM;intro W1 hM)|(refine qt (S2 _) ?_;clear hM;intro W1 hM)|(refine qt (S3 _) ?_;clear hM;intro W1 hM)|(refine qt (S4 _) ?_;clear hM;intro W1 hM));refine rK hK' hM ?_;clear hK' K';refine dC 22 (fun K' hK'=> ?_);go_wp2_with(first|(refine qt (A1 _) ?_;clear hM;intro W1 hM)|(refine qt (A2 _) ?_;clear hM;intro W1 hM)|(refine qt (S1 _) ?_;clear hM;intro W1 hM)|(refine qt (S2 _) ?_;clear hM;intro W1 hM)|(refine qt (S3 _) ?_;clear hM;intro W1 hM)|(refine qt (S4 _) ?_;clear hM;intro W1 hM));refine rK hK' hM ?_;clear hK' K';refine dC 29 (fun K' hK'=> ?_);go_wp2_with(first|(refine qt (A1 _) ?_;clear hM;intro W1 hM)|(refine qt (A2 _) ?_;clear hM;intro W1 hM)|(refine qt (S1 _) ?_;clear hM;intro W1 hM)|(refine qt (S2 _) ?_;clear hM;intro W1 hM)|(refine qt (S3 _) ?_;clear hM;intro W1 hM)|(refine qt (S4 _) ?_;clear hM;intro W1 hM));refine rK hK' hM ?_;clear hK' K';refine dC 30 (fun K' hK'=> ?_);refine EM [tK fx fy s.x3 s.y3,KC s.x3 s.y3 s.x2 s.y2 s.dx s.dy rad (U+64800000) (-(2*q)),tK s.x2 s.y2 fx fy] hM ?_;clear hM;intro gB W hM;refine rK hK' hM ?_;clear hK' K';refine rD 31 ?_;refine rD 32 ?_;refine qp qM ?_;go_wp2_with(first|(refine qe ?_;clear hM;intro g W hM))
  all_goals
   go_ret2;exact⟨_,_,rfl,by rw[HP.out];exact Vh [tK fx fy s.x3 s.y3,KC s.x3 s.y3 s.x2 s.y2 s.dx s.dy rad (U+64800000) (-(2*q)),tK s.x2 s.y2 fx fy] 3 rfl qG qG,VG hM⟩
 ·have HP:=hide (show ZN v fx fy inb tn leg rad=[] by unfold ZN;rw[if_neg hv,if_neg hv2]);rw[hk];clear hk hv hv2;go_enter Tryz.func43,Tryz.ntmps43;go_wp2_with(first|(refine qe ?_;clear hM;intro g W hM)|(refine qt (LY _) ?_;clear hM;intro W1 hM))
  all_goals
   go_ret2;exact⟨_,[],rfl,by rw[HP.out];exact jN 3,vq hM⟩
theorem uh{w0 w:World}{gb:Nat}{bad:Bool}{R:List qZ}(px py c dd x y e:Int)(hc:qz c)(hd:qz dd)(hR:zn px py c dd=(x,y,e))(hM:qF w0 w ((gb,[.bool bad],4)::R)):
 Calls Tryz.prog 94 #[.agg #[Iv px,Iv py],Iv c,Iv dd,.pointer (some ⟨gb,0,none⟩)] w fun e' w'=>e'= .returned (.agg #[Iv x,Iv y])∧qF w0 w' ((gb,[.bool (bad||(e !=0))],4)::R):=by
 have RY:=fun W=>jY px py c dd hc hd W _ hR.symm
 clear hR;rcases bad with _|_
 all_goals
  go_enter Tryz.func94,Tryz.ntmps94;go_wp2_with(first|(refine qe ?_;clear hM;intro g W hM)|(refine qt (RY _) ?_;clear hM;intro W1 hM))
  all_goals
   refine' uX hM rfl rfl Tryz.isAgg26 Tryz.sizeOf26 rfl ?_ ?_ ⟨?_,?_⟩;rotate_left 2;(·repeat constructor);(·rfl);(·rfl);(·first|exact qC (qC (qC hM))|(simpa using qC (qC (qC hM))))
theorem cB{P:Program}{f:FuncId}{xs:Array Value}{w0 W:World}{L pre:List qZ}{g:Nat}{cs cs':List Value}{t:TypeId}{R:List qZ}{v:Value}{Q:Ending→World→Prop}
 (hM:qF w0 W L) (hs:L=pre++(g,cs,t)::R) (hc:∀R',qF w0 W ((g,cs,t)::R')→Calls P f xs W fun e w'=>e= .returned v∧qF w0 w' ((g,cs',t)::R'))
 (h:∀W1,qF w0 W1 (pre++(g,cs',t)::R)→Q (.returned v) W1):Calls P f xs W Q:=by
 subst hs;have p:∀(c:List Value),(pre++(g,c,t)::R).Perm ((g,c,t)::(pre++R)):=fun c=>List.perm_middle
 refine(hc (pre++R) (qW hM (p cs))).mono ?_;rintro e w' ⟨rfl,hM'⟩;exact h w' (qW hM' (p cs').symm)
theorem iM{fx fy crs tn dst rad:Int}(h:(qw fx fy&&(decide (tn=1)||decide (tn=2)))=false):uU fx fy crs tn dst rad=(1,[]):=by unfold uU;rw[if_pos h]
theorem iN{fx fy crs tn dst rad:Int}(h:(qw fx fy&&(decide (tn=1)||decide (tn=2)))=true)(h2:crs<0∨crs≥129600000∨dst<1∨dst>2000000∨rad<1∨rad>666666):uU fx fy crs tn dst rad=(2,[]):=by unfold uU;rw[if_neg (by rw[h];simp),if_pos h2]
inductive Se:List qZ→List qZ→Nat→List Value→TypeId→List qZ→Prop
 |here {g:Nat} {cs:List Value} {t:TypeId} {R:List qZ}:Se ((g,cs,t)::R) [] g cs t R
 |tail {e:qZ} {L pre:List qZ} {g:Nat} {cs:List Value} {t:TypeId} {R:List qZ}:Se L pre g cs t R→Se (e::L) (e::pre) g cs t R
theorem Se.eq{L pre:List qZ}{g:Nat}{cs:List Value}{t:TypeId}{R:List qZ}(h:Se L pre g cs t R):L=pre++(g,cs,t)::R:=by
 induction h with
 |here=>rfl
 |tail _ ih=>rw[ih];rfl
theorem cE{P:Program}{f:FuncId}{xs:Array Value}{w0 W:World}{L pre:List qZ}{g:Nat}{cs cs':List Value}{t:TypeId}{R:List qZ}{v:Value}{Q:Ending→World→Prop}
 (hM:qF w0 W L) (hc:∀R',qF w0 W ((g,cs,t)::R')→Calls P f xs W fun e w'=>e= .returned v∧qF w0 w' ((g,cs',t)::R'))
 (h:∀W1,qF w0 W1 (pre++(g,cs',t)::R)→Q (.returned v) W1) (hs:Se L pre g cs t R:=by((repeat constructor)<;>fail)):Calls P f xs W Q:=cB hM hs.eq hc h
theorem Aq(fx fy crs tn dst rad:Int)(w:World):
 Calls Tryz.prog 42 #[.agg #[Iv fx,Iv fy],Iv crs,.int .u8 tn,Iv dst,Iv rad] w fun e w'=>∃V B,e= .returned (.tuple #[V,Iv (uU fx fy crs tn dst rad).1])∧tO V (uU fx fy crs tn dst rad).2 B 5∧qF w w' B:=by
 have PV:=fun W=>qE fx fy W
 obtain⟨p0,hp0⟩:∃p0,qw fx fy=p0:=⟨_,rfl⟩;rw[hp0]at PV;by_cases ht:p0=true∧(tn=1∨tn=2);rotate_left 1
 ·have HE:=hide (show uU fx fy crs tn dst rad=(1,[])from iM (by
   rw[hp0];rcases hq:p0 with _|_
   ·rfl
   ·have h1:tn≠1:=fun h=>ht ⟨hq,.inl h⟩
    have h2:tn≠2:=fun h=>ht ⟨hq,.inr h⟩
    simp[h1,h2]))
  have hcs:p0=false∨(p0=true∧(tn !=1)=true∧(tn !=2)=true):=by
   rcases hq:p0 with _|_
   ·exact .inl rfl
   ·have h1:tn≠1:=fun h=>ht ⟨hq,.inl h⟩
    have h2:tn≠2:=fun h=>ht ⟨hq,.inr h⟩
    exact .inr ⟨rfl,by simpa using h1,by simpa using h2⟩
  clear ht hp0;have hM:=qo w;rcases hcs with rfl|⟨rfl,t1,t2⟩
  all_goals
   go_enter Tryz.func42,Tryz.ntmps42;go_wp2_with(first|(refine qe ?_;clear hM;intro g W hM)|(refine qt (PV _) ?_;clear hM;intro W1 hM))
   all_goals
    (go_ret2;first|exact⟨.slice none 0 0,[],by rw[HE.out];rfl,by rw[HE.out];exact jN 5,vq hM⟩|exact⟨.slice none 0 0,by rw[HE.out];rfl,[],by rw[HE.out];exact jN 5,vq hM⟩)
 obtain⟨rfl,ht⟩:=ht
 have HV:=hide (show(qw fx fy&&(decide (tn=1)||decide (tn=2)))=true by
  rw[hp0]
  rcases ht with rfl|rfl<;>rfl)
 clear hp0;have hM:=qo w;go_enter Tryz.func42,Tryz.ntmps42;go_upto_region 0 with fail;refine qj ?_;go_cut [5] (fun s5 wx=>∃gF:Nat,s5= .pointer (some ⟨gF,0,none⟩)∧qF w wx [(gF,[Iv fx,Iv fy],26)])
 case first=>
  go_wp2_with(first|(refine qe ?_;clear hM;intro g W hM))
  all_goals
   go_meet;exact⟨_,rfl,hM⟩
 case rest=>
 clear hM;obtain⟨gF,rfl,hM⟩:=hcut;go_upto_region 1 with(first|(refine qe ?_;clear hM;intro g W hM));go_cut [23] (fun s wx=>s= .bool false∧qF w wx [(gF,[Iv fx,Iv fy],26)])
 case first=>
  have hcs:((tn !=1)=true∧(tn !=2)=false)∨(tn !=1)=false:=by
   rcases ht with rfl|rfl
   ·exact .inr rfl
   ·exact .inl ⟨rfl,rfl⟩
  rcases hcs with⟨t1,t2⟩|t1
  all_goals
   go_wp2_with(first|(refine qe ?_;clear hM;intro g W hM)|(refine qt (PV _) ?_;clear hM;intro W1 hM))
   all_goals
    go_meet;exact⟨rfl,hM⟩
 case rest=>
 clear hM;obtain⟨rfl,hM⟩:=hcut;clear PV;by_cases hr:crs<0∨crs≥129600000∨dst<1∨dst>2000000∨rad<1∨rad>666666
 ·have HE:=hide (iN (crs:=crs) (dst:=dst) (rad:=rad) HV.out hr);by_cases r1:crs<0
  ·clear hr;go_wp2_with(first|(refine qe ?_;clear hM;intro g W hM))
   all_goals(go_ret2;first|exact⟨.slice none 0 0,[],by rw[HE.out];rfl,by rw[HE.out];exact jN 5,vq hM⟩|exact⟨.slice none 0 0,by rw[HE.out];rfl,[],by rw[HE.out];exact jN 5,vq hM⟩)
  by_cases r2:129600000≤crs
  ·clear hr;go_wp2_with(first|(refine qe ?_;clear hM;intro g W hM))
   all_goals(go_ret2;first|exact⟨.slice none 0 0,[],by rw[HE.out];rfl,by rw[HE.out];exact jN 5,vq hM⟩|exact⟨.slice none 0 0,by rw[HE.out];rfl,[],by rw[HE.out];exact jN 5,vq hM⟩)
  by_cases r3:dst<1
  ·clear hr;go_wp2_with(first|(refine qe ?_;clear hM;intro g W hM))
   all_goals(go_ret2;first|exact⟨.slice none 0 0,[],by rw[HE.out];rfl,by rw[HE.out];exact jN 5,vq hM⟩|exact⟨.slice none 0 0,by rw[HE.out];rfl,[],by rw[HE.out];exact jN 5,vq hM⟩)
  by_cases r4:2000000<dst
  ·clear hr;go_wp2_with(first|(refine qe ?_;clear hM;intro g W hM))
   all_goals(go_ret2;first|exact⟨.slice none 0 0,[],by rw[HE.out];rfl,by rw[HE.out];exact jN 5,vq hM⟩|exact⟨.slice none 0 0,by rw[HE.out];rfl,[],by rw[HE.out];exact jN 5,vq hM⟩)
  by_cases r5:rad<1
  ·clear hr;go_wp2_with(first|(refine qe ?_;clear hM;intro g W hM))
   all_goals(go_ret2;first|exact⟨.slice none 0 0,[],by rw[HE.out];rfl,by rw[HE.out];exact jN 5,vq hM⟩|exact⟨.slice none 0 0,by rw[HE.out];rfl,[],by rw[HE.out];exact jN 5,vq hM⟩)
  have r6:666666<rad:=qg;clear hr;go_wp2_with(first|(refine qe ?_;clear hM;intro g W hM))
  all_goals(go_ret2;first|exact⟨.slice none 0 0,[],by rw[HE.out];rfl,by rw[HE.out];exact jN 5,vq hM⟩|exact⟨.slice none 0 0,by rw[HE.out];rfl,[],by rw[HE.out];exact jN 5,vq hM⟩)
 have HRG:=hide hr;have r1:¬crs<0:=qg;have r2:¬129600000≤crs:=qg;have r3:¬dst<1:=qg;have r4:¬2000000<dst:=qg;have r5:¬rad<1:=qg;have r6:¬666666<rad:=qg;clear hr;have QT:=fun W=>KX tn W
 have qb:Yg tn=32400000∨Yg tn= -32400000:=by unfold Yg;split<;>omega
 have HQ:Hid (aG crs tn=crs+(Yg tn).tdiv 2∧aH crs tn=aG crs tn-Yg tn):=hide ⟨rfl,rfl⟩;obtain⟨v,hv⟩:∃v,aG crs tn=v:=⟨_,rfl⟩;obtain⟨n,hn⟩:∃n,aH crs tn=n:=⟨_,rfl⟩;obtain⟨md,hmd⟩:∃md,kN 2 (2*rad*1414213562) 1000000000=md:=⟨_,rfl⟩;have RD:=fun W=>Zu (2*rad*1414213562) 1000000000 yq yq W
 have mdv:qL 2 (2*rad*1414213562) 1 1000000000=(md,0):=by
  unfold qL;rw[if_neg qG,Int.mul_one,hmd,if_pos];unfold Qy
  have e:md=(2*(2*rad*1414213562)+1000000000)/(2*1000000000):=by
   rw[←hmd];unfold kN;rw[if_neg qG,if_neg qG];rw[Int.fdiv_eq_ediv_of_nonneg _ qG]
  exact decide_eq_true qg
 rw[mdv]at RD
 have mb:0≤md∧md≤4000000:=by
  have e:md=(2*(2*rad*1414213562)+1000000000)/(2*1000000000):=by
   rw[←hmd];unfold kN;rw[if_neg qG,if_neg qG];rw[Int.fdiv_eq_ediv_of_nonneg _ qG]
  omega
 have HM:=hide (And.intro hv (And.intro hn hmd))
 have v1: -16200000≤v-crs∧v-crs≤16200000:=by
  have:=HQ.out.1;rw[hv]at this;rcases qb with h|h<;>rw[h]at this
  ·have e:(32400000:Int).tdiv 2=16200000:=qG;omega
  ·have e:(-32400000:Int).tdiv 2= -16200000:=qG;omega
 have n1: -48600000≤n-crs∧n-crs≤48600000:=by
  have:=HQ.out.2;rw[hn,hv]at this;omega
 obtain⟨q,hq⟩:∃q,Yg tn=q:=⟨_,rfl⟩;rw[hq]at QT qb;have qd:crs+q.tdiv 2=v:=by rw[←hv,HQ.out.1,hq]
 have qn:v-q=n:=by rw[←hn,HQ.out.2,hv,hq]
 have w1:IntKind.i64.wrap (crs+q.tdiv 2)=v:=by rw[qd];exact IntWalk.i64_in v qg
 have w2:IntKind.i64.wrap (v-q)=n:=by rw[qn];exact IntWalk.i64_in n qg
 have w3:=IntWalk.i64_in (2*rad) qg;have w4:=IntWalk.i64_in (2*rad*1414213562) qg;have w5:=IntWalk.i64_in (3*rad) qg;have w6:=IntWalk.i64_in (n+64800000) qg;have w7:=IntWalk.i64_in (-2*q) qg;have w8:IntKind.i64.wrap (q.tdiv 2)=q.tdiv 2:=IntWalk.i64_in _ (by rcases qb with h|h<;>rw[h]<;>decide);have HTQ:=hide hq;clear hv hn hmd mdv qd qn hq;obtain⟨qx,qy,e1,h1⟩:∃qx qy e1,zn fx fy crs dst=(qx,qy,e1):=⟨_,_,_,rfl⟩;obtain⟨sx,sy,e2,h2⟩:∃sx sy e2,zn qx qy v (3*rad)=(sx,sy,e2):=⟨_,_,_,rfl⟩;obtain⟨cx,cy,e3,h3⟩:∃cx cy e3,zn sx sy n rad=(cx,cy,e3):=⟨_,_,_,rfl⟩;obtain⟨tx,ty,e4,h4⟩:∃tx ty e4,zn sx sy n (2*rad)=(tx,ty,e4):=⟨_,_,_,rfl⟩;obtain⟨mx,my,e5,h5⟩:∃mx my e5,zn qx qy crs md=(mx,my,e5):=⟨_,_,_,rfl⟩;have i1:qz crs:=yq;have i2:qz dst:=yq;have i3:qz v:=yq;have i4:qz (3*rad):=yq;have i5:qz n:=yq;have i6:qz rad:=yq;have i7:qz (2*rad):=yq;have i8:qz md:=yq
 have HE:=hide (show uU fx fy crs tn dst rad=if(e1=0∧e2=0∧e3=0∧e4=0∧e5=0)then(0,[tK fx fy qx qy,tK qx qy sx sy,KC sx sy tx ty cx cy rad (n+64800000) (-2*q),tK tx ty mx my,tK mx my fx fy])else(2,[]) by
  unfold uU;rw[if_neg (by rw[HV.out];simp),if_neg HRG.out];dsimp only;rw[HM.out.1,HM.out.2.1,HM.out.2.2,h1];dsimp only;rw[h2,h5];dsimp only
  rw[h3,h4,HTQ.out,show-(2*q)= -2*q by omega])
 have H1:=hide h1;have H2:=hide h2;have H3:=hide h3;have H4:=hide h4;have H5:=hide h5;clear h1 h2 h3 h4 h5 HV HRG HM HTQ HQ;go_upto_region 14 with(first|(refine qe ?_;clear hM;intro g W hM)|refine qN (QT _) ?_|(refine Gr (RD _) ?_;clear hM;intro n1 hM)|(go_at_call 94;(with_reducible refine cE hM (fun R' hM'=>uh fx fy crs dst qx qy e1 i1 i2 H1.out hM') ?_);clear hM H1;intro W1 hM;simp only[List.cons_append,List.nil_append]at hM)|(go_at_call 94;(with_reducible refine cE hM (fun R' hM'=>uh qx qy v (3*rad) sx sy e2 i3 i4 H2.out hM') ?_);clear hM H2;intro W1 hM;simp only[List.cons_append,List.nil_append]at hM)|(go_at_call 94;(with_reducible refine cE hM (fun R' hM'=>uh sx sy n rad cx cy e3 i5 i6 H3.out hM') ?_);clear hM H3;intro W1 hM;simp only[List.cons_append,List.nil_append]at hM)|(go_at_call 94;(with_reducible refine cE hM (fun R' hM'=>uh sx sy n (2*rad) tx ty e4 i5 i7 H4.out hM') ?_);clear hM H4;intro W1 hM;simp only[List.cons_append,List.nil_append]at hM)|(go_at_call 94;(with_reducible refine cE hM (fun R' hM'=>uh qx qy crs md mx my e5 i1 i8 H5.out hM') ?_);clear hM H5;intro W1 hM;simp only[List.cons_append,List.nil_append]at hM));refine qj ?_;go_cut [16,22,21,20,19,18] (fun s16 s22 s21 s20 s19 s18 wx=>∃gb g22 g21 g20 g19 g18:Nat,s16= .pointer (some ⟨gb,0,none⟩)∧s22= .pointer (some ⟨g22,0,none⟩)∧s21= .pointer (some ⟨g21,0,none⟩)∧s20= .pointer (some ⟨g20,0,none⟩)∧s19= .pointer (some ⟨g19,0,none⟩)∧s18= .pointer (some ⟨g18,0,none⟩)∧qF w wx ((g22,[Iv mx,Iv my],26)::(g21,[Iv tx,Iv ty],26)::(g20,[Iv cx,Iv cy],26)::(g19,[Iv sx,Iv sy],26)::(g18,[Iv qx,Iv qy],26)::(gb,[.bool (((((false||(e1 !=0))||(e2 !=0))||(e3 !=0))||(e4 !=0))||(e5 !=0))],4)::[(gF,[Iv fx,Iv fy],26)]))
 case first=>
  go_wp2_with(first|(refine qe ?_;clear hM;intro g W hM)|(go_at_call 94;(with_reducible refine cE hM (fun R' hM'=>uh fx fy crs dst qx qy e1 i1 i2 H1.out hM') ?_);clear hM H1;intro W1 hM;simp only[List.cons_append,List.nil_append]at hM)|(go_at_call 94;(with_reducible refine cE hM (fun R' hM'=>uh qx qy v (3*rad) sx sy e2 i3 i4 H2.out hM') ?_);clear hM H2;intro W1 hM;simp only[List.cons_append,List.nil_append]at hM)|(go_at_call 94;(with_reducible refine cE hM (fun R' hM'=>uh sx sy n rad cx cy e3 i5 i6 H3.out hM') ?_);clear hM H3;intro W1 hM;simp only[List.cons_append,List.nil_append]at hM)|(go_at_call 94;(with_reducible refine cE hM (fun R' hM'=>uh sx sy n (2*rad) tx ty e4 i5 i7 H4.out hM') ?_);clear hM H4;intro W1 hM;simp only[List.cons_append,List.nil_append]at hM)|(go_at_call 94;(with_reducible refine cE hM (fun R' hM'=>uh qx qy crs md mx my e5 i1 i8 H5.out hM') ?_);clear hM H5;intro W1 hM;simp only[List.cons_append,List.nil_append]at hM))
  all_goals
   go_meet;exact⟨_,_,_,_,_,_,rfl,rfl,rfl,rfl,rfl,rfl,hM⟩
 case rest=>
 clear hM;obtain⟨gb,g22,g21,g20,g19,g18,rfl,rfl,rfl,rfl,rfl,rfl,hM⟩:=hcut;obtain⟨bb,hbb⟩:∃bb,(((((false||(e1 !=0))||(e2 !=0))||(e3 !=0))||(e4 !=0))||(e5 !=0))=bb:=⟨_,rfl⟩;rw[hbb]at hM;by_cases hg:e1=0∧e2=0∧e3=0∧e4=0∧e5=0;rotate_left 1
 ·have HZ:=hide (HE.out.trans (if_neg hg))
  have hb2:bb=true:=by
   rw[←hbb];rcases hq:(((((false||(e1 !=0))||(e2 !=0))||(e3 !=0))||(e4 !=0))||(e5 !=0))with _|_
   ·exfalso;simp at hq;omega
   ·rfl
  subst hb2;clear hbb hg HE;go_wp2_with(first|(refine qe ?_;clear hM;intro g W hM))
  all_goals
   (go_ret2;first|exact⟨.slice none 0 0,[],by rw[HZ.out];rfl,by rw[HZ.out];exact jN 5,vq hM⟩|exact⟨.slice none 0 0,by rw[HZ.out];rfl,[],by rw[HZ.out];exact jN 5,vq hM⟩)
 have HZ:=hide (HE.out.trans (if_pos hg));obtain⟨rfl,rfl,rfl,rfl,rfl⟩:=hg;obtain rfl:bb=false:=by rw[←hbb];rfl
 clear hbb HE;have A1:=fun W=>QJ sx sy tx ty cx cy rad (n+64800000) (-2*q) yq W
 have S1:=fun W=>ug fx fy qx qy W
 have S2:=fun W=>ug qx qy sx sy W
 have S3:=fun W=>ug tx ty mx my W
 have S4:=fun W=>ug mx my fx fy W
 go_upto_region 17 with(first|(refine qe ?_;clear hM;intro g W hM));refine qj ?_;refine qA [(g22,[Iv mx,Iv my],26),(g21,[Iv tx,Iv ty],26),(g20,[Iv cx,Iv cy],26),(g19,[Iv sx,Iv sy],26),(g18,[Iv qx,Iv qy],26),(gF,[Iv fx,Iv fy],26)] hM qM ?_;(clear hM;intro W hM);refine rD 0 ?_;refine rD 1 ?_;refine rD 3 ?_;refine rD 4 ?_;refine rD 6 ?_;refine rD 7 ?_;refine rD 8 ?_;refine rD 9 ?_;refine rD 10 ?_;refine rD 11 ?_;refine rD 12 ?_;refine rD 16 ?_;refine rD 17 ?_;refine rD 19 ?_;refine rD 20 ?_;refine dC 2 (fun K' hK'=> ?_);go_wp2_with(first|refine qN (QT _) ?_|(refine qt (A1 _) ?_;clear hM;intro W1 hM)|(refine qt (S1 _) ?_;clear hM;intro W1 hM)|(refine qt (S2 _) ?_;clear hM;intro W1 hM)|(refine qt (S3 _) ?_;clear hM;intro W1 hM)|(refine qt (S4 _) ?_;clear hM;intro W1 hM));refine rK hK' hM ?_;clear hK' K';refine dC 5 (fun K' hK'=> ?_);go_wp2_with(first|refine qN (QT _) ?_|(refine qt (A1 _) ?_;clear hM;intro W1 hM)|(refine qt (S1 _) ?_;clear hM;intro W1 hM)|(refine qt (S2 _) ?_;clear hM;intro W1 hM)|(refine qt (S3 _) ?_;clear hM;intro W1 hM)|(refine qt (S4 _) ?_;clear hM;intro W1 hM));refine rK hK' hM ?_;clear hK' K';refine dC 13 (fun K' hK'=> ?_);go_wp2_with(first|refine qN (QT _) ?_|(refine qt (A1 _) ?_;clear hM;intro W1 hM)|(refine qt (S1 _) ?_;clear hM;intro W1 hM)|(refine qt (S2 _) ?_;clear hM;intro W1 hM)|(refine qt (S3 _) ?_;clear hM;intro W1 hM)|(refine qt (S4 _) ?_;clear hM;intro W1 hM));refine rK hK' hM ?_;clear hK' K';refine rD 14 ?_;refine dC 15 (fun K' hK'=> ?_);go_wp2_with(first|refine qN (QT _) ?_|(refine qt (A1 _) ?_;clear hM;intro W1 hM)|(refine qt (S1 _) ?_;clear hM;intro W1 hM)|(refine qt (S2 _) ?_;clear hM;intro W1 hM)|(refine qt (S3 _) ?_;clear hM;intro W1 hM)|(refine qt (S4 _) ?_;clear hM;intro W1 hM));refine rK hK' hM ?_;clear hK' K';refine dC 18 (fun K' hK'=> ?_);go_wp2_with(first|refine qN (QT _) ?_|(refine qt (A1 _) ?_;clear hM;intro W1 hM)|(refine qt (S1 _) ?_;clear hM;intro W1 hM)|(refine qt (S2 _) ?_;clear hM;intro W1 hM)|(refine qt (S3 _) ?_;clear hM;intro W1 hM)|(refine qt (S4 _) ?_;clear hM;intro W1 hM));refine rK hK' hM ?_;clear hK' K';refine dC 21 (fun K' hK'=> ?_);go_wp2_with(first|refine qN (QT _) ?_|(refine qt (A1 _) ?_;clear hM;intro W1 hM)|(refine qt (S1 _) ?_;clear hM;intro W1 hM)|(refine qt (S2 _) ?_;clear hM;intro W1 hM)|(refine qt (S3 _) ?_;clear hM;intro W1 hM)|(refine qt (S4 _) ?_;clear hM;intro W1 hM));refine rK hK' hM ?_;clear hK' K';refine dC 22 (fun K' hK'=> ?_);refine EM [tK fx fy qx qy,tK qx qy sx sy,KC sx sy tx ty cx cy rad (n+64800000) (-2*q),tK tx ty mx my,tK mx my fx fy] hM ?_;clear hM;intro gB W hM;refine rK hK' hM ?_;clear hK' K';refine rD 23 ?_;refine rD 24 ?_;refine qp qM ?_;go_wp2_with(first|(refine qe ?_;clear hM;intro g W hM))
 all_goals
  go_ret2
  first
   |exact⟨_,_,by rw[HZ.out];rfl,by rw[HZ.out];exact Vh [tK fx fy qx qy,tK qx qy sx sy,KC sx sy tx ty cx cy rad (n+64800000) (-2*q),tK tx ty mx my,tK mx my fx fy] 5 rfl qG qG,VG hM⟩
   |exact⟨_,by rw[HZ.out];rfl,_,by rw[HZ.out];exact Vh [tK fx fy qx qy,tK qx qy sx sy,KC sx sy tx ty cx cy rad (n+64800000) (-2*q),tK tx ty mx my,tK mx my fx fy] 5 rfl qG qG,VG hM⟩
end Go.Proofs.YtiegohjobhehcaaGreatDoor
