/-
  resolve: rays, lines to points, climbs; for all arguments.
-/
import Derived.Test.YtcgpbnlhnafhjaaGreatDoorMAroM
import Derived.Test.YtcgpbnlhnafhjaaGreatDoorMTurnM
set_option maxRecDepth 100000
set_option maxHeartbeats 16000000
namespace Go.Proofs.YtcgpbnlhnafhjaaGreatDoor
open Go.RowKit
set_option linter.unusedVariables false
set_option linter.unusedSimpArgs false
theorem zMResA1{P:Prop}(h:P:=by(unfold yD;(try dsimp only);(repeat(first|(refine(if_pos ?_).trans ?_;(·exact zMResA0))|(refine(if_neg ?_).trans ?_;(·exact zMResA0))));rfl)):P:=h
theorem zMResA0{P:Prop}(h:P:=by first|omega|(exact jc DM)|(exact zI DM)|(simp_all;done)|(simp_all;omega)):P:=h
theorem VP(ax ay c l:Int)(hc:qK c)(hl:qK l)(w:World):
 Calls Tryz.prog 85 #[.agg #[Iv ax,Iv ay],Iv c,Iv l] w fun e w'=>e= .returned (.tuple #[.agg (kf ax ay c l).1.cells.toArray,Iv (kf ax ay c l).2])∧Below w.heap.size w w':=by
 have hM:=qE w;go_enter Tryz.func85,Tryz.ntmps85;go_wp2_with(first|(refine DU ?_;clear hM;intro g W hM)|(go_at_call 71;(with_reducible refine(jN _ _ _ _ ?_ ?_ _ _ rfl).mono ?_);(·first|assumption|(unfold qK;omega));(·first|assumption|(unfold qK;omega));rintro e W1 ⟨rfl,hb⟩;replace hM:=qz hM hb;clear hb))
 all_goals
  refine' qO hM rfl rfl Tryz.isAgg67 Tryz.sizeOf67 rfl rfl ?_ ?_ ⟨?_,hM.below⟩;rotate_left 2
  ·repeat constructor
  ·rfl
  ·unfold kf;first|(rw[if_pos (by simp_all)];rfl)|(rw[if_neg (by simp_all)];rfl)
theorem gD(ax ay bx b_y px py:Int)(w:World):
 Calls Tryz.prog 158 #[.agg #[Iv ax,Iv ay],.agg #[Iv bx,Iv b_y],.agg #[Iv px,Iv py]] w fun e w'=>e= .returned (.bool (Jb ax ay bx b_y px py))∧Below w.heap.size w w':=by
 have hM:=qE w;go_enter Tryz.func158,Tryz.ntmps158;go_wp2_with(first|(refine DU ?_;clear hM;intro g W hM)|(refine qf (YI _ _ _ _ _ _ _ _ rfl) ?_;clear hM;intro W1 hM))
 all_goals
  go_ret;exact⟨rfl,hM.below⟩
theorem tZ(ax ay c bx b_y:Int)(w:World):
 Calls Tryz.prog 159 #[.agg #[Iv ax,Iv ay],Iv c,.agg #[Iv bx,Iv b_y]] w fun e w'=>e= .returned (.agg (BL ax ay c bx b_y).cells.toArray)∧Below w.heap.size w w':=by
 have hM:=qE w;go_enter Tryz.func159,Tryz.ntmps159;go_upto_region 1 with(first|(refine DU ?_;clear hM;intro g W hM));refine' yq hM DN (.tmp 6) rfl ?_ ?_;rotate_left 1;(·repeat constructor);(clear hM;intro W hM hK hne)
 first|refine kL 0 hM hK ?_|refine kM 0 hM hK ?_
 refine qu ?_
 first|refine kL 1 hM hK ?_|refine kM 1 hM hK ?_
 refine qu ?_;refine kP 2 hM hK ?_;refine qu ?_;refine kP 3 hM hK ?_;refine qu ?_
 first|refine kL 4 hM hK ?_|refine kM 4 hM hK ?_
 refine qu ?_
 first|refine kL 5 hM hK ?_|refine kM 5 hM hK ?_
 refine qu ?_;refine zt (i:=6) (zF rfl) DN rfl (fun K' hK'=> ?_);go_wp2_with(first|(refine qf (yE _ _ _ _ _) ?_;clear hM;intro W1 hM));refine hK'.out _ _ (qW hM hK) ?_;clear hK' K';refine qu ?_;refine kP 7 hM hK ?_;refine qu ?_;refine' jd hM (i:=8) (zF rfl) DN rfl rfl rfl ?_ ?_ ?_ ?_ ?_ ?_ ?_ hK hne ?_;rotate_left 6;(·constructor);(·repeat constructor);(·repeat constructor);(·repeat constructor);(·exact uT rfl);(·rfl);(·exact zO rfl);(clear hM hK;intro W hM hK);refine qu ?_;refine qF DN ?_;go_wp2_with(first|(refine DU ?_;clear hM;intro g W hM));refine' ug hM rfl rfl Tryz.isAgg67 Tryz.sizeOf67 rfl ?_ ?_ ⟨?_,hM.below⟩;rotate_left 2
 ·repeat constructor
 ·rfl
 ·rfl
theorem kI(ax ay bx b_y c:Int)(w:World):
 Calls Tryz.prog 32 #[.agg #[Iv ax,Iv ay],.agg #[Iv bx,Iv b_y],Iv c] w fun e w'=>e= .returned (.agg (zf ax ay bx b_y c).cells.toArray)∧Below w.heap.size w w':=by
 by_cases he:ax=bx∧ay=b_y
 ·have HT:Hid (zf ax ay bx b_y c=pK 1 ax ay bx b_y c 0):=hide (by unfold zf;rw[if_pos he]);obtain⟨rfl,rfl⟩:=he;have hM:=qE w;go_enter Tryz.func32,Tryz.ntmps32;go_wp2_with(first|(refine DU ?_;clear hM;intro g W hM))
  all_goals
   refine' ug hM rfl rfl Tryz.isAgg67 Tryz.sizeOf67 rfl ?_ ?_ ⟨?_,hM.below⟩;rotate_left 2
   ·repeat constructor
   ·rfl
   ·rw[HT.out];rfl
 ·have HT:Hid (zf ax ay bx b_y c=pK 1 ax ay bx b_y (qN ax ay bx b_y).1 (qY ax ay bx b_y)):=hide (by unfold zf;rw[if_neg he])
  have hne:(ax==bx&&ay==b_y)=false:=by
   rw[Bool.eq_false_iff];simp;intro h1 h2;exact he ⟨h1,h2⟩
  have hq:((ax==bx)=false)∨((ax==bx)=true∧(ay==b_y)=false):=by
   rcases h:(ax==bx)with _|_
   ·exact .inl rfl
   ·rw[h]at hne;exact .inr ⟨rfl,by simpa using hne⟩
  clear he hne;rcases hq with hx|⟨hx,hy⟩
  all_goals
   have hM:=qE w;go_enter Tryz.func32,Tryz.ntmps32;go_upto_region 4 with(first|(refine DU ?_;clear hM;intro g W hM)|(refine qf (vk _ _ _ _ _) ?_;clear hM;intro W1 hM));refine' yq hM DN (.tmp 7) rfl ?_ ?_;rotate_left 1;(·repeat constructor);(clear hM;intro W hM hK hne);refine kP 0 hM hK ?_;refine qu ?_
   first|refine kL 2 hM hK ?_|refine kM 2 hM hK ?_
   refine qu ?_
   first|refine kL 3 hM hK ?_|refine kM 3 hM hK ?_
   refine qu ?_;refine JI (i:=1) (j:=4) (zF rfl) (zF rfl) DN rfl rfl (fun K' hK'=> ?_) (fun K' hK'=> ?_)
   ·
    first
     |(refine' ZM hM rfl rfl ?_ ?_ ?_ ?_;rotate_left 3;(·repeat constructor);(·exact wP rfl);(·exact rfl))
     |(refine' YK hM rfl rfl ?_ ?_ ?_ ?_ ?_;rotate_left 4;(·repeat constructor);(·exact JK rfl);(·exact uT rfl);(·repeat constructor))
    refine hK'.out _ _ (qW hM hK) ?_;clear hK' K';refine qu ?_;refine kP 5 hM hK ?_;refine qu ?_;refine zt (i:=4) (zF rfl) DN rfl (fun K' hK'=> ?_);go_wp2_with(first|(refine qf (yE _ _ _ _ _) ?_;clear hM;intro W1 hM));refine hK'.out _ _ (qW hM hK) ?_;clear hK' K';refine qu ?_;refine' jd hM (i:=6) (zF rfl) DN rfl rfl rfl ?_ ?_ ?_ ?_ ?_ ?_ ?_ hK hne ?_;rotate_left 6;(·constructor);(·repeat constructor);(·repeat constructor);(·repeat constructor);(·exact uT rfl);(·rfl);(·exact zO rfl);(clear hM hK;intro W hM hK);refine qu ?_;refine kP 7 hM hK ?_;refine qu ?_;refine' jd hM (i:=8) (zF rfl) DN rfl rfl rfl ?_ ?_ ?_ ?_ ?_ ?_ ?_ hK hne ?_;rotate_left 6;(·constructor);(·repeat constructor);(·repeat constructor);(·repeat constructor);(·exact uT rfl);(·rfl);(·exact zO rfl);(clear hM hK;intro W hM hK);refine qu ?_;refine qF DN ?_;go_wp2_with(first|(refine DU ?_;clear hM;intro g W hM));refine' ug hM rfl rfl Tryz.isAgg67 Tryz.sizeOf67 rfl ?_ ?_ ⟨?_,hM.below⟩;rotate_left 2
    ·repeat constructor
    ·rfl
    ·rw[HT.out];rfl
   ·
    go_wp2_with(first|(refine qf (yE _ _ _ _ _) ?_;clear hM;intro W1 hM));refine hK'.out _ _ (qW hM hK) ?_;clear hK' K';refine qu ?_;refine zt (i:=1) (zF rfl) DN rfl (fun K' hK'=> ?_)
    first
     |(refine' ZM hM rfl rfl ?_ ?_ ?_ ?_;rotate_left 3;(·repeat constructor);(·exact wP rfl);(·exact rfl))
     |(refine' YK hM rfl rfl ?_ ?_ ?_ ?_ ?_;rotate_left 4;(·repeat constructor);(·exact JK rfl);(·exact uT rfl);(·repeat constructor))
    refine hK'.out _ _ (qW hM hK) ?_;clear hK' K';refine qu ?_;refine kP 5 hM hK ?_;refine qu ?_;refine' jd hM (i:=6) (zF rfl) DN rfl rfl rfl ?_ ?_ ?_ ?_ ?_ ?_ ?_ hK hne ?_;rotate_left 6;(·constructor);(·repeat constructor);(·repeat constructor);(·repeat constructor);(·exact uT rfl);(·rfl);(·exact zO rfl);(clear hM hK;intro W hM hK);refine qu ?_;refine kP 7 hM hK ?_;refine qu ?_;refine' jd hM (i:=8) (zF rfl) DN rfl rfl rfl ?_ ?_ ?_ ?_ ?_ ?_ ?_ hK hne ?_;rotate_left 6;(·constructor);(·repeat constructor);(·repeat constructor);(·repeat constructor);(·exact uT rfl);(·rfl);(·exact zO rfl);(clear hM hK;intro W hM hK);refine qu ?_;refine qF DN ?_;go_wp2_with(first|(refine DU ?_;clear hM;intro g W hM));refine' ug hM rfl rfl Tryz.isAgg67 Tryz.sizeOf67 rfl ?_ ?_ ⟨?_,hM.below⟩;rotate_left 2
    ·repeat constructor
    ·rfl
    ·rw[HT.out];rfl
theorem Tp(a b:Int):qK (zy a b):=by
 rw[VH];unfold qK;omega
theorem fk(fx fy c:Int)(x:En)(hc:0≤x.crs)(hc2:x.crs≤129599999)(w:World):
 Calls Tryz.prog 82 #[.agg #[Iv fx,Iv fy],Iv c,.agg x.cells.toArray] w fun e w'=>e= .returned (.tuple #[.agg (vp fx fy c x).1.cells.toArray,Iv (vp fx fy c x).2])∧Below w.heap.size w w':=by
 have hM:=qE w;go_enter Tryz.func82,Tryz.ntmps82;go_upto_region 15 with(first|(refine DU ?_;clear hM;intro g W hM)|(go_at_call 71;(with_reducible refine(jN _ _ _ _ ?_ ?_ _ _ rfl).mono ?_);(·first|assumption|(unfold qK;omega));(·first|assumption|(unfold qK;omega));rintro e W1 ⟨rfl,hb⟩;replace hM:=qz hM hb;clear hb)|(refine qf (bQ _ _ _ _ _ _ _) ?_;clear hM;intro W1 hM)|(refine qf (YI _ _ _ _ _ _ _ _ rfl) ?_;clear hM;intro W1 hM)|(refine qf (Gw _ _ _ _ _ _ _ _ rfl) ?_;clear hM;intro W1 hM)|(refine qf (kI _ _ _ _ _ _) ?_;clear hM;intro W1 hM))
 all_goals first
  |(refine' qO hM rfl rfl Tryz.isAgg67 Tryz.sizeOf67 rfl rfl ?_ ?_ ⟨?_,hM.below⟩;rotate_left 2;(·repeat constructor);(·rfl);(·refine' ze ?_ ?_;rotate_left 1;(·(unfold vp;(try dsimp only);(repeat(first|(refine(if_pos ?_).trans ?_;(·exact zMResA0))|(refine(if_neg ?_).trans ?_;(·exact zMResA0))));rfl));(·first|rfl|exact congrArg Tk.cells (jE _ _ _ _ _ _))))
  |skip
 all_goals
  refine' yq hM DN (.tmp 13) rfl ?_ ?_;rotate_left 1;(·repeat constructor);(clear hM;intro W hM hK hne);refine kP 0 hM hK ?_;refine qu ?_;refine kP 1 hM hK ?_;refine qu ?_
  first|refine kL 2 hM hK ?_|refine kM 2 hM hK ?_
  refine qu ?_;refine kP 3 hM hK ?_;refine qu ?_;refine kP 4 hM hK ?_;refine qu ?_
  first|refine kL 5 hM hK ?_|refine kM 5 hM hK ?_
  refine qu ?_;refine kP 6 hM hK ?_;refine qu ?_;refine' jd hM (i:=7) (zF rfl) DN rfl rfl rfl ?_ ?_ ?_ ?_ ?_ ?_ ?_ hK hne ?_;rotate_left 6;(·constructor);(·repeat constructor);(·repeat constructor);(·repeat constructor);(·exact uT rfl);(·rfl);(·exact zO rfl);(clear hM hK;intro W hM hK);refine qu ?_;refine kP 8 hM hK ?_;refine qu ?_;refine' jd hM (i:=9) (zF rfl) DN rfl rfl rfl ?_ ?_ ?_ ?_ ?_ ?_ ?_ hK hne ?_;rotate_left 6;(·constructor);(·repeat constructor);(·repeat constructor);(·repeat constructor);(·exact uT rfl);(·rfl);(·exact zO rfl);(clear hM hK;intro W hM hK);refine qu ?_;refine qF DN ?_;go_wp2_with(first|(refine DU ?_;clear hM;intro g W hM)|(go_at_call 71;(with_reducible refine(jN _ _ _ _ ?_ ?_ _ _ rfl).mono ?_);(·first|assumption|(unfold qK;omega));(·first|assumption|(unfold qK;omega));rintro e W1 ⟨rfl,hb⟩;replace hM:=qz hM hb;clear hb)|(refine qf (bQ _ _ _ _ _ _ _) ?_;clear hM;intro W1 hM)|(refine qf (YI _ _ _ _ _ _ _ _ rfl) ?_;clear hM;intro W1 hM)|(refine qf (Gw _ _ _ _ _ _ _ _ rfl) ?_;clear hM;intro W1 hM)|(refine qf (kI _ _ _ _ _ _) ?_;clear hM;intro W1 hM));refine' qO hM rfl rfl Tryz.isAgg67 Tryz.sizeOf67 rfl rfl ?_ ?_ ⟨?_,hM.below⟩;rotate_left 2
  ·repeat constructor
  ·rfl
  ·refine' ze ?_ ?_;rotate_left 1;(·(unfold vp;(try dsimp only);(repeat(first|(refine(if_pos ?_).trans ?_;(·exact zMResA0))|(refine(if_neg ?_).trans ?_;(·exact zMResA0))));rfl));(·first|rfl|exact congrArg Tk.cells (jE _ _ _ _ _ _))
theorem fo(fx fy:Int)(x y:En)(hc:qK x.crs)(hy:qK y.crs)(ty:0≤y.ty)(w:World):
 Calls Tryz.prog 88 #[.agg #[Iv fx,Iv fy],.agg x.cells.toArray,.agg y.cells.toArray] w fun e w'=>e= .returned (.tuple #[.agg (yD fx fy x y).1.cells.toArray,Iv (yD fx fy x y).2])∧Below w.heap.size w w':=by
 have hT:=Tp y.crs 64800000;have hM:=qE w;go_enter Tryz.func88,Tryz.ntmps88;go_upto_region 6 with(first|(go_at_call 71;(with_reducible refine(jN _ _ _ _ ?_ ?_ _ _ rfl).mono ?_);(·first|assumption|(unfold qK;omega));(·first|assumption|(unfold qK;omega));rintro e W1 ⟨rfl,hb⟩;replace hM:=qz hM hb;clear hb)|(refine qf (Qd _ _ _ _ _ _ _ _ _ _ rfl) ?_;clear hM;intro W1 hM)|(refine qf (gD _ _ _ _ _ _ _) ?_;clear hM;intro W1 hM)|(refine qf (tZ _ _ _ _ _ _) ?_;clear hM;intro W1 hM)|(refine qf (bQ _ _ _ _ _ _ _) ?_;clear hM;intro W1 hM)|(go_at_call 160;(with_reducible refine(yu _ ?_ _).mono ?_);(·first|assumption|(unfold qK;omega));rintro e W1 ⟨rfl,rfl⟩)|refine qg ?_|((with_reducible refine kq ?_);refine yP (fun hg=> ?_) (fun hg=> ?_)<;>simp[go_sem,Region.wanted]at hg)|(refine DU ?_;clear hM;intro g W hM))
 all_goals first
  |(refine' qO hM rfl rfl Tryz.isAgg67 Tryz.sizeOf67 rfl rfl ?_ ?_ ⟨?_,hM.below⟩;rotate_left 2;(·repeat constructor);(·rfl);(·refine' ze ?_ ?_;rotate_left 1;(·exact zMResA1);(·first|rfl|exact congrArg Tk.cells (jE _ _ _ _ _ _))))
  |skip
 refine jD hM DN ?_;(clear hM;intro W hM hK);refine kP 0 hM hK ?_;refine qu ?_
 first|refine kL 1 hM hK ?_|refine kM 1 hM hK ?_
 refine qu ?_;refine kP 2 hM hK ?_;refine qu ?_;refine kP 3 hM hK ?_;refine qu ?_
 first|refine kL 4 hM hK ?_|refine kM 4 hM hK ?_
 refine qu ?_;refine JI (i:=5) (j:=10) (zF rfl) (zF rfl) DN rfl rfl (fun K' hK'=> ?_) (fun K' hK'=> ?_)
 ·
  go_wp2_with(first|(go_at_call 160;(with_reducible refine(yu _ ?_ _).mono ?_);(·first|assumption|(unfold qK;omega));rintro e W1 ⟨rfl,rfl⟩)|(go_at_call 71;(with_reducible refine(jN _ _ _ _ ?_ ?_ _ _ rfl).mono ?_);(·first|assumption|(unfold qK;omega));(·first|assumption|(unfold qK;omega));rintro e W1 ⟨rfl,hb⟩;replace hM:=qz hM hb;clear hb));refine hK'.out _ _ (qW hM hK) ?_;clear hK' K';refine qu ?_;refine JI (i:=6) (j:=10) (zF rfl) (zF rfl) DN rfl rfl (fun K' hK'=> ?_) (fun K' hK'=> ?_)
  ·
   go_wp2_with(first|(go_at_call 160;(with_reducible refine(yu _ ?_ _).mono ?_);(·first|assumption|(unfold qK;omega));rintro e W1 ⟨rfl,rfl⟩)|(go_at_call 71;(with_reducible refine(jN _ _ _ _ ?_ ?_ _ _ rfl).mono ?_);(·first|assumption|(unfold qK;omega));(·first|assumption|(unfold qK;omega));rintro e W1 ⟨rfl,hb⟩;replace hM:=qz hM hb;clear hb));refine hK'.out _ _ (qW hM hK) ?_;clear hK' K';refine qu ?_;refine kP 7 hM hK ?_;refine qu ?_;refine kP 8 hM hK ?_;refine qu ?_;refine kP 9 hM hK ?_;refine qu ?_;refine zt (i:=10) (zF rfl) DN rfl (fun K' hK'=> ?_);refine' vN hM rfl ?_ rfl ?_;rotate_left 1;(·exact Pa rfl);(have hKo:=hK;clear hK hM;intro g W hM;have hne:=JH hM hKo;have hK:=tV hM hKo;clear hKo);refine hK'.out _ _ (qW hM hK) ?_;clear hK' K';refine qu ?_;refine' jd hM (i:=11) (zF rfl) DN rfl rfl rfl ?_ ?_ ?_ ?_ ?_ ?_ ?_ hK hne ?_;rotate_left 6;(·constructor);(·repeat constructor);(·repeat constructor);(·repeat constructor);(·exact uT rfl);(·rfl);(·exact zO rfl);(clear hM hK;intro W hM hK);refine qu ?_;refine kP 12 hM hK ?_;refine qu ?_;refine qF DN ?_;go_wp2_with(first|(go_at_call 71;(with_reducible refine(jN _ _ _ _ ?_ ?_ _ _ rfl).mono ?_);(·first|assumption|(unfold qK;omega));(·first|assumption|(unfold qK;omega));rintro e W1 ⟨rfl,hb⟩;replace hM:=qz hM hb;clear hb)|(refine qf (Qd _ _ _ _ _ _ _ _ _ _ rfl) ?_;clear hM;intro W1 hM)|(refine qf (gD _ _ _ _ _ _ _) ?_;clear hM;intro W1 hM)|(refine qf (tZ _ _ _ _ _ _) ?_;clear hM;intro W1 hM)|(refine qf (bQ _ _ _ _ _ _ _) ?_;clear hM;intro W1 hM)|(go_at_call 160;(with_reducible refine(yu _ ?_ _).mono ?_);(·first|assumption|(unfold qK;omega));rintro e W1 ⟨rfl,rfl⟩)|refine qg ?_|((with_reducible refine kq ?_);refine yP (fun hg=> ?_) (fun hg=> ?_)<;>simp[go_sem,Region.wanted]at hg)|(refine DU ?_;clear hM;intro g W hM))
   all_goals
    refine' qO hM rfl rfl Tryz.isAgg67 Tryz.sizeOf67 rfl rfl ?_ ?_ ⟨?_,hM.below⟩;rotate_left 2
    ·repeat constructor
    ·rfl
    ·refine' ze ?_ ?_;rotate_left 1;(·exact zMResA1);(·first|rfl|exact congrArg Tk.cells (jE _ _ _ _ _ _))
  ·
   refine' vN hM rfl ?_ rfl ?_;rotate_left 1;(·exact Pa rfl);(have hKo:=hK;clear hK hM;intro g W hM;have hne:=JH hM hKo;have hK:=tV hM hKo;clear hKo);refine hK'.out _ _ (qW hM hK) ?_;clear hK' K';refine qu ?_;refine zt (i:=6) (zF rfl) DN rfl (fun K' hK'=> ?_);go_wp2_with(first|(go_at_call 160;(with_reducible refine(yu _ ?_ _).mono ?_);(·first|assumption|(unfold qK;omega));rintro e W1 ⟨rfl,rfl⟩)|(go_at_call 71;(with_reducible refine(jN _ _ _ _ ?_ ?_ _ _ rfl).mono ?_);(·first|assumption|(unfold qK;omega));(·first|assumption|(unfold qK;omega));rintro e W1 ⟨rfl,hb⟩;replace hM:=qz hM hb;clear hb));refine hK'.out _ _ (qW hM hK) ?_;clear hK' K';refine qu ?_;refine kP 7 hM hK ?_;refine qu ?_;refine kP 8 hM hK ?_;refine qu ?_;refine kP 9 hM hK ?_;refine qu ?_;refine' jd hM (i:=11) (zF rfl) DN rfl rfl rfl ?_ ?_ ?_ ?_ ?_ ?_ ?_ hK hne ?_;rotate_left 6;(·constructor);(·repeat constructor);(·repeat constructor);(·repeat constructor);(·exact uT rfl);(·rfl);(·exact zO rfl);(clear hM hK;intro W hM hK);refine qu ?_;refine kP 12 hM hK ?_;refine qu ?_;refine qF DN ?_;go_wp2_with(first|(go_at_call 71;(with_reducible refine(jN _ _ _ _ ?_ ?_ _ _ rfl).mono ?_);(·first|assumption|(unfold qK;omega));(·first|assumption|(unfold qK;omega));rintro e W1 ⟨rfl,hb⟩;replace hM:=qz hM hb;clear hb)|(refine qf (Qd _ _ _ _ _ _ _ _ _ _ rfl) ?_;clear hM;intro W1 hM)|(refine qf (gD _ _ _ _ _ _ _) ?_;clear hM;intro W1 hM)|(refine qf (tZ _ _ _ _ _ _) ?_;clear hM;intro W1 hM)|(refine qf (bQ _ _ _ _ _ _ _) ?_;clear hM;intro W1 hM)|(go_at_call 160;(with_reducible refine(yu _ ?_ _).mono ?_);(·first|assumption|(unfold qK;omega));rintro e W1 ⟨rfl,rfl⟩)|refine qg ?_|((with_reducible refine kq ?_);refine yP (fun hg=> ?_) (fun hg=> ?_)<;>simp[go_sem,Region.wanted]at hg)|(refine DU ?_;clear hM;intro g W hM))
   all_goals
    refine' qO hM rfl rfl Tryz.isAgg67 Tryz.sizeOf67 rfl rfl ?_ ?_ ⟨?_,hM.below⟩;rotate_left 2
    ·repeat constructor
    ·rfl
    ·refine' ze ?_ ?_;rotate_left 1;(·exact zMResA1);(·first|rfl|exact congrArg Tk.cells (jE _ _ _ _ _ _))
 ·
  refine' vN hM rfl ?_ rfl ?_;rotate_left 1;(·exact Pa rfl);(have hKo:=hK;clear hK hM;intro g W hM;have hne:=JH hM hKo;have hK:=tV hM hKo;clear hKo);refine hK'.out _ _ (qW hM hK) ?_;clear hK' K';refine qu ?_;refine zt (i:=5) (zF rfl) DN rfl (fun K' hK'=> ?_);go_wp2_with(first|(go_at_call 160;(with_reducible refine(yu _ ?_ _).mono ?_);(·first|assumption|(unfold qK;omega));rintro e W1 ⟨rfl,rfl⟩)|(go_at_call 71;(with_reducible refine(jN _ _ _ _ ?_ ?_ _ _ rfl).mono ?_);(·first|assumption|(unfold qK;omega));(·first|assumption|(unfold qK;omega));rintro e W1 ⟨rfl,hb⟩;replace hM:=qz hM hb;clear hb));refine hK'.out _ _ (qW hM hK) ?_;clear hK' K';refine qu ?_;refine zt (i:=6) (zF rfl) DN rfl (fun K' hK'=> ?_);go_wp2_with(first|(go_at_call 160;(with_reducible refine(yu _ ?_ _).mono ?_);(·first|assumption|(unfold qK;omega));rintro e W1 ⟨rfl,rfl⟩)|(go_at_call 71;(with_reducible refine(jN _ _ _ _ ?_ ?_ _ _ rfl).mono ?_);(·first|assumption|(unfold qK;omega));(·first|assumption|(unfold qK;omega));rintro e W1 ⟨rfl,hb⟩;replace hM:=qz hM hb;clear hb));refine hK'.out _ _ (qW hM hK) ?_;clear hK' K';refine qu ?_;refine kP 7 hM hK ?_;refine qu ?_;refine kP 8 hM hK ?_;refine qu ?_;refine kP 9 hM hK ?_;refine qu ?_;refine' jd hM (i:=11) (zF rfl) DN rfl rfl rfl ?_ ?_ ?_ ?_ ?_ ?_ ?_ hK hne ?_;rotate_left 6;(·constructor);(·repeat constructor);(·repeat constructor);(·repeat constructor);(·exact uT rfl);(·rfl);(·exact zO rfl);(clear hM hK;intro W hM hK);refine qu ?_;refine kP 12 hM hK ?_;refine qu ?_;refine qF DN ?_;go_wp2_with(first|(go_at_call 71;(with_reducible refine(jN _ _ _ _ ?_ ?_ _ _ rfl).mono ?_);(·first|assumption|(unfold qK;omega));(·first|assumption|(unfold qK;omega));rintro e W1 ⟨rfl,hb⟩;replace hM:=qz hM hb;clear hb)|(refine qf (Qd _ _ _ _ _ _ _ _ _ _ rfl) ?_;clear hM;intro W1 hM)|(refine qf (gD _ _ _ _ _ _ _) ?_;clear hM;intro W1 hM)|(refine qf (tZ _ _ _ _ _ _) ?_;clear hM;intro W1 hM)|(refine qf (bQ _ _ _ _ _ _ _) ?_;clear hM;intro W1 hM)|(go_at_call 160;(with_reducible refine(yu _ ?_ _).mono ?_);(·first|assumption|(unfold qK;omega));rintro e W1 ⟨rfl,rfl⟩)|refine qg ?_|((with_reducible refine kq ?_);refine yP (fun hg=> ?_) (fun hg=> ?_)<;>simp[go_sem,Region.wanted]at hg)|(refine DU ?_;clear hM;intro g W hM))
  all_goals
   refine' qO hM rfl rfl Tryz.isAgg67 Tryz.sizeOf67 rfl rfl ?_ ?_ ⟨?_,hM.below⟩;rotate_left 2
   ·repeat constructor
   ·rfl
   ·refine' ze ?_ ?_;rotate_left 1;(·exact zMResA1);(·first|rfl|exact congrArg Tk.cells (jE _ _ _ _ _ _))
theorem VQ(fx fy:Int)(x:En)(ht:x.tn=1∨x.tn=2)(hr:0≤x.rad)(hr2:x.rad≤2000000)(w:World):
 Calls Tryz.prog 83 #[.agg #[Iv fx,Iv fy],.agg x.cells.toArray] w fun e w'=>e= .returned (.tuple #[.agg (jZ fx fy x).1.cells.toArray,Iv (jZ fx fy x).2])∧Below w.heap.size w w':=by
 obtain⟨v0,v1,v2,v3,v4,e0,hF,hb0,hb1⟩:=Yp fx fy x.mx x.my x.ex x.ey (decide (x.tn=2));have HF:=hide hF
 have HT:Hid (jZ fx fy x=if e0≠0 then(Tk.zero,e0)else if v2-x.rad>60∨v2-x.rad< -60 then(Tk.zero,10)else
  if(jp v0 v1 v2 v3 v4 0).2.2.2≠0 then(Tk.zero,(jp v0 v1 v2 v3 v4 0).2.2.2)else
  if(jp v0 v1 v2 v3 v4 (qX v0 v1 v2 v3 v4)).2.2.2≠0 then(Tk.zero,(jp v0 v1 v2 v3 v4 (qX v0 v1 v2 v3 v4)).2.2.2)else
  (⟨2,fx,fy,x.ex,x.ey,v0,v1,v2,v3,v4,(jp v0 v1 v2 v3 v4 0).2.2.1,(jp v0 v1 v2 v3 v4 (qX v0 v1 v2 v3 v4)).2.2.1,qX v0 v1 v2 v3 v4,0,false⟩,0)):=hide (by unfold jZ;rw[hF])
 clear hF;rcases ht with htn|htn
 ·have htq:=hide htn;have AR:=fun W=>fE fx fy x.mx x.my x.ex x.ey W v0 v1 v2 v3 v4 e0 (by rw[←HF.out,htn];rfl)
  have hM:=qE w;go_enter Tryz.func83,Tryz.ntmps83;go_wp2_with(first|(refine DU ?_;clear hM;intro g W hM)|(refine qf (AR _) ?_;clear hM;intro W1 hM)|(refine qf (gI _ _ _ _ _ _ _ _ rfl) ?_;clear hM;intro W1 hM)|(refine qf (gJ _ _ _ _ _ _) ?_;clear hM;intro W1 hM)|(go_at_call 68;(with_reducible refine(kY _ ?_ ?_ _).mono ?_);(·(unfold qK;omega));(·omega);rintro e W1 ⟨rfl,rfl⟩))
  all_goals
   refine' qO hM rfl rfl Tryz.isAgg67 Tryz.sizeOf67 rfl rfl ?_ ?_ ⟨?_,hM.below⟩;rotate_left 2
   ·repeat constructor
   ·rfl
   ·refine' ze ?_ ?_;rotate_left 1;(·(rw[HT.out];(repeat(first|(refine(if_pos ?_).trans ?_;(·exact zMResA0))|(refine(if_neg ?_).trans ?_;(·exact zMResA0))));rfl));(·rfl)
 ·have htq:=hide htn;have AR:=fun W=>fF fx fy x.mx x.my x.ex x.ey W v0 v1 v2 v3 v4 e0 (by rw[←HF.out,htn];rfl)
  have hM:=qE w;go_enter Tryz.func83,Tryz.ntmps83;go_wp2_with(first|(refine DU ?_;clear hM;intro g W hM)|(refine qf (AR _) ?_;clear hM;intro W1 hM)|(refine qf (gI _ _ _ _ _ _ _ _ rfl) ?_;clear hM;intro W1 hM)|(refine qf (gJ _ _ _ _ _ _) ?_;clear hM;intro W1 hM)|(go_at_call 68;(with_reducible refine(kY _ ?_ ?_ _).mono ?_);(·(unfold qK;omega));(·omega);rintro e W1 ⟨rfl,rfl⟩))
  all_goals
   refine' qO hM rfl rfl Tryz.isAgg67 Tryz.sizeOf67 rfl rfl ?_ ?_ ⟨?_,hM.below⟩;rotate_left 2
   ·repeat constructor
   ·rfl
   ·refine' ze ?_ ?_;rotate_left 1;(·(rw[HT.out];(repeat(first|(refine(if_pos ?_).trans ?_;(·exact zMResA0))|(refine(if_neg ?_).trans ?_;(·exact zMResA0))));rfl));(·rfl)
theorem ef(a b:Int)(ha:qK a)(hb:qK b)(w:World):
 Calls Tryz.prog 156 #[Iv a,Iv b] w fun e w'=>e= .returned (.tuple #[Iv (qR 1 a 1 b).1,Iv (qR 1 a 1 b).2])∧∃n,w'=w.drewN n:=by
 go_enter Tryz.func156,Tryz.ntmps156;go_wp2_with(go_at_call 72;refine(Jf _ _ _ (by first|assumption|exact vw) (by first|assumption|exact vw) DM _).mono ?_;rintro e w' ⟨rfl,m,rfl⟩);go_ret2;exact⟨rfl,_,rfl⟩
theorem Ut(fx fy alt:Int)(x:En)(spd bank oalt gr:Int)(h1: -200000≤alt)(h1b:alt≤6000000)(h2: -200000≤x.lo)(h2b:x.lo≤6000000)(hg:1≤gr)(hgb:gr≤100000)(hc:qK x.crs)(w:World):
 Calls Tryz.prog 84 #[.agg #[Iv fx,Iv fy],Iv alt,.agg x.cells.toArray,.agg #[Iv spd,Iv bank,Iv oalt,Iv gr]] w fun e w'=>e= .returned (.tuple #[.agg (yS fx fy alt x gr).1.cells.toArray,Iv (yS fx fy alt x gr).2])∧Below w.heap.size w w':=by
 have NB:=JV h1 h2b hg;obtain⟨N,hN⟩:∃N,kF alt x.lo gr=N:=⟨_,rfl⟩;have HN:=hide hN;rw[hN]at NB;have HT:Hid (yS fx fy alt x gr=if N>8000000 then(Tk.zero,2)else kf fx fy x.crs N):=hide (by unfold yS;rw[hN]);clear hN;by_cases hlt:alt<x.lo
 ·have CE:=fun W=>ef ((x.lo-alt)*6000) gr DP DP W
  rw[Wx hlt h1 h2b hg,HN.out]at CE;have hM:=qE w;go_enter Tryz.func84,Tryz.ntmps84;go_wp2_with(first|(refine DU ?_;clear hM;intro g W hM)|(go_at_call 156;(with_reducible refine(CE _).mono ?_);rintro e W1 ⟨rfl,n,rfl⟩;replace hM:=yp hM n)|(go_at_call 85;(with_reducible refine(VP _ _ _ _ ?_ ?_ _).mono ?_);(·first|assumption|(unfold qK;omega));(·first|assumption|(unfold qK;omega));rintro e W1 ⟨rfl,hb⟩;replace hM:=qz hM hb;clear hb))
  all_goals
   refine' qO hM rfl rfl Tryz.isAgg67 Tryz.sizeOf67 rfl rfl ?_ ?_ ⟨?_,hM.below⟩;rotate_left 2
   ·repeat constructor
   ·rfl
   ·rw[HT.out];first|rw[if_pos DL];rfl|rw[if_neg DL];rfl
 ·have hN0:N=0:=by rw[←HN.out];unfold kF;rw[if_neg hlt]
  subst hN0;have hM:=qE w;go_enter Tryz.func84,Tryz.ntmps84;go_wp2_with(first|(refine DU ?_;clear hM;intro g W hM)|(go_at_call 156;(with_reducible refine(CE _).mono ?_);rintro e W1 ⟨rfl,n,rfl⟩;replace hM:=yp hM n)|(go_at_call 85;(with_reducible refine(VP _ _ _ _ ?_ ?_ _).mono ?_);(·first|assumption|(unfold qK;omega));(·first|assumption|(unfold qK;omega));rintro e W1 ⟨rfl,hb⟩;replace hM:=qz hM hb;clear hb))
  all_goals
   refine' qO hM rfl rfl Tryz.isAgg67 Tryz.sizeOf67 rfl rfl ?_ ?_ ⟨?_,hM.below⟩;rotate_left 2
   ·repeat constructor
   ·rfl
   ·rw[HT.out];first|rw[if_pos DL];rfl|rw[if_neg DL];rfl
theorem pw(fx fy:Int)(x:En)(hd:0≤x.dst)(hd2:x.dst≤2000000)(hc:qK x.crs)(w:World):
 Calls Tryz.prog 86 #[.agg #[Iv fx,Iv fy],.agg x.cells.toArray] w fun e w'=>e= .returned (.tuple #[.agg (yt fx fy x).1.cells.toArray,Iv (yt fx fy x).2])∧Below w.heap.size w w':=by
 obtain⟨px,py,pe,hP⟩:∃px py pe,zi fx fy x.crs 60000=(px,py,pe):=⟨_,_,_,rfl⟩;have HP:=hide hP;have RA:=fun W=>jN fx fy x.crs 60000 hc DP W _ rfl
 rw[hP]at RA;clear hP;have ob:=Nj fx fy px py x.mx x.my;obtain⟨o,al,oe,hO⟩:∃o al oe,xz fx fy px py x.mx x.my=(o,al,oe):=⟨_,_,_,rfl⟩;have HO:=hide hO;have OA:=fun W=>YI fx fy px py x.mx x.my W _ rfl
 rw[hO]at OA ob;clear hO
 have HT:Hid (yt fx fy x=if pe≠0 then(Tk.zero,pe)else if oe≠0 then(Tk.zero,oe)else if o>x.dst∨o< -x.dst then(Tk.zero,10)else if¬(al-vu (x.dst*x.dst-o*o).toNat<0)then kf fx fy x.crs (al-vu (x.dst*x.dst-o*o).toNat)else
  if al+vu (x.dst*x.dst-o*o).toNat<0 then(Tk.zero,10)else kf fx fy x.crs (al+vu (x.dst*x.dst-o*o).toNat)):=hide (by unfold yt;rw[HP.out];dsimp only;rw[HO.out])
 by_cases hr:o>x.dst∨o< -x.dst
 ·have hM:=qE w;go_enter Tryz.func86,Tryz.ntmps86;go_wp2_with(first|(refine DU ?_;clear hM;intro g W hM)|(refine qf (RA _) ?_;clear hM;intro W1 hM)|(refine qf (OA _) ?_;clear hM;intro W1 hM))
  all_goals
   refine' qO hM rfl rfl Tryz.isAgg67 Tryz.sizeOf67 rfl rfl ?_ ?_ ⟨?_,hM.below⟩;rotate_left 2
   ·repeat constructor
   ·rfl
   ·refine' ze ?_ ?_;rotate_left 1;(·(rw[HT.out];(repeat(first|(refine(if_pos ?_).trans ?_;(·exact zMResA0))|(refine(if_neg ?_).trans ?_;(·exact zMResA0))));rfl));(·rfl)
 ·have q1:=Yo (a:=x.dst) (b:=x.dst) (k:=2000000) DL DL DL;have q2:=Yo (a:=o) (b:=o) (k:=2000000) DL DL DL;have hq:=Ni (x.dst*x.dst-o*o).toNat;have hr1:o≤x.dst:=DL;have hr2: -x.dst≤o:=DL;clear hr;have SQ:=fun W=>VT (x.dst*x.dst-o*o) DP W
  obtain⟨h,hh⟩:∃h,vu (x.dst*x.dst-o*o).toNat=h:=⟨_,rfl⟩;rw[hh]at SQ HT hq;clear hh;have hM:=qE w;go_enter Tryz.func86,Tryz.ntmps86;go_wp2_with(first|(refine DU ?_;clear hM;intro g W hM)|(refine qf (RA _) ?_;clear hM;intro W1 hM)|(refine qf (OA _) ?_;clear hM;intro W1 hM)|(go_at_call 91;(with_reducible refine(SQ _).mono ?_);rintro e W1 ⟨rfl,n,rfl⟩;replace hM:=yp hM n)|(go_at_call 85;(with_reducible refine(VP _ _ _ _ ?_ ?_ _).mono ?_);(·first|assumption|(unfold qK;omega));(·first|assumption|(unfold qK;omega));rintro e W1 ⟨rfl,hb⟩;replace hM:=qz hM hb;clear hb))
  all_goals
   refine' qO hM rfl rfl Tryz.isAgg67 Tryz.sizeOf67 rfl rfl ?_ ?_ ⟨?_,hM.below⟩;rotate_left 2
   ·repeat constructor
   ·rfl
   ·refine' ze ?_ ?_;rotate_left 1;(·(rw[HT.out];(repeat(first|(refine(if_pos ?_).trans ?_;(·exact zMResA0))|(refine(if_neg ?_).trans ?_;(·exact zMResA0))));rfl));(·rfl)
theorem fj(fx fy:Int)(x:En)(hc:qK x.crs)(ht:qK x.tht)(w:World):
 Calls Tryz.prog 87 #[.agg #[Iv fx,Iv fy],.agg x.cells.toArray] w fun e w'=>e= .returned (.tuple #[.agg (vR fx fy x).1.cells.toArray,Iv (vR fx fy x).2])∧Below w.heap.size w w':=by
 have hM:=qE w;go_enter Tryz.func87,Tryz.ntmps87;go_wp2_with(first|(refine DU ?_;clear hM;intro g W hM)|(go_at_call 71;(with_reducible refine(jN _ _ _ _ ?_ ?_ _ _ rfl).mono ?_);(·first|assumption|(unfold qK;omega));(·first|assumption|(unfold qK;omega));rintro e W1 ⟨rfl,hb⟩;replace hM:=qz hM hb;clear hb)|(refine qf (Qd _ _ _ _ _ _ _ _ _ _ rfl) ?_;clear hM;intro W1 hM)|(refine qf (gD _ _ _ _ _ _ _) ?_;clear hM;intro W1 hM)|(refine qf (tZ _ _ _ _ _ _) ?_;clear hM;intro W1 hM))
 all_goals
  refine' qO hM rfl rfl Tryz.isAgg67 Tryz.sizeOf67 rfl rfl ?_ ?_ ⟨?_,hM.below⟩;rotate_left 2
  ·repeat constructor
  ·rfl
  ·refine' ze ?_ ?_;rotate_left 1;(·(unfold vR;(try dsimp only);(repeat(first|(refine(if_pos ?_).trans ?_;(·exact zMResA0))|(refine(if_neg ?_).trans ?_;(·exact zMResA0))));rfl));(·first|rfl|exact congrArg Tk.cells (jE _ _ _ _ _ _))
end Go.Proofs.YtcgpbnlhnafhjaaGreatDoor
