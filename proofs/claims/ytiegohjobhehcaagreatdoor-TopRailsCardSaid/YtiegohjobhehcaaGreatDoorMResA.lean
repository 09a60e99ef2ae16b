/-
  resolve: rays, lines to points, climbs; for all arguments.
-/
import Derived.Test.YtiegohjobhehcaaGreatDoorMAroM
import Derived.Test.YtiegohjobhehcaaGreatDoorMTurnM
set_option maxRecDepth 100000
set_option maxHeartbeats 16000000
namespace Go.Proofs.YtiegohjobhehcaaGreatDoor
open Go.RowKit
set_option linter.unusedVariables false
set_option linter.unusedSimpArgs false
theorem zMResA1{P:Prop}(h:P:=by(unfold kK;(try dsimp only);(repeat(first|(refine(if_pos ?_).trans ?_;(·exact zMResA0))|(refine(if_neg ?_).trans ?_;(·exact zMResA0))));rfl)):P:=h
theorem zMResA0{P:Prop}(h:P:=by first|omega|(exact yC qY)|(exact jK qY)|(simp_all;done)|(simp_all;omega)):P:=h
theorem Kj(ax ay c l:Int)(hc:qz c)(hl:qz l)(w:World):
 Calls Tryz.prog 85 #[.agg #[Iv ax,Iv ay],Iv c,Iv l] w fun e w'=>e= .returned (.tuple #[.agg (bi ax ay c l).1.cells.toArray,Iv (bi ax ay c l).2])∧Below w.heap.size w w':=by
 have hM:=qo w;go_enter Tryz.func85,Tryz.ntmps85;go_wp2_with(first|(refine qe ?_;clear hM;intro g W hM)|(go_at_call 70;(with_reducible refine(jY _ _ _ _ ?_ ?_ _ _ rfl).mono ?_);(·first|assumption|(unfold qz;omega));(·first|assumption|(unfold qz;omega));rintro e W1 ⟨rfl,hb⟩;replace hM:=qD hM hb;clear hb))
 all_goals
  refine' qU hM rfl rfl Tryz.isAgg91 Tryz.sizeOf91 rfl rfl ?_ ?_ ⟨?_,hM.below⟩;rotate_left 2
  ·repeat constructor
  ·rfl
  ·unfold bi;first|(rw[if_pos (by simp_all)];rfl)|(rw[if_neg (by simp_all)];rfl)
theorem tD(ax ay bx b_y px py:Int)(w:World):
 Calls Tryz.prog 161 #[.agg #[Iv ax,Iv ay],.agg #[Iv bx,Iv b_y],.agg #[Iv px,Iv py]] w fun e w'=>e= .returned (.bool (Vo ax ay bx b_y px py))∧Below w.heap.size w w':=by
 have hM:=qo w;go_enter Tryz.func161,Tryz.ntmps161;go_wp2_with(first|(refine qe ?_;clear hM;intro g W hM)|(refine qt (Vd _ _ _ _ _ _ _ _ rfl) ?_;clear hM;intro W1 hM))
 all_goals
  go_ret;exact⟨rfl,hM.below⟩
theorem xH(ax ay c bx b_y:Int)(w:World):
 Calls Tryz.prog 162 #[.agg #[Iv ax,Iv ay],Iv c,.agg #[Iv bx,Iv b_y]] w fun e w'=>e= .returned (.agg (nR ax ay c bx b_y).cells.toArray)∧Below w.heap.size w w':=by
 have hM:=qo w;go_enter Tryz.func162,Tryz.ntmps162;go_upto_region 1 with(first|(refine qe ?_;clear hM;intro g W hM));refine' gV hM qM (.tmp 6) rfl ?_ ?_;rotate_left 1;(·repeat constructor);(clear hM;intro W hM hK hne)
 first|refine kL 0 hM hK ?_|refine kM 0 hM hK ?_
 refine qj ?_
 first|refine kL 1 hM hK ?_|refine kM 1 hM hK ?_
 refine qj ?_;refine kP 2 hM hK ?_;refine qj ?_;refine kP 3 hM hK ?_;refine qj ?_
 first|refine kL 4 hM hK ?_|refine kM 4 hM hK ?_
 refine qj ?_
 first|refine kL 5 hM hK ?_|refine kM 5 hM hK ?_
 refine qj ?_;refine kT (i:=6) (ym rfl) qM rfl (fun K' hK'=> ?_);go_wp2_with(first|(refine qt (yG _ _ _ _ _) ?_;clear hM;intro W1 hM));refine hK'.out _ _ (jh hM hK) ?_;clear hK' K';refine qj ?_;refine kP 7 hM hK ?_;refine qj ?_;refine' vC hM (i:=8) (ym rfl) qM rfl rfl rfl ?_ ?_ ?_ ?_ ?_ ?_ ?_ hK hne ?_;rotate_left 6;(·constructor);(·repeat constructor);(·repeat constructor);(·repeat constructor);(·exact bQ rfl);(·rfl);(·exact yf rfl);(clear hM hK;intro W hM hK);refine qj ?_;refine qp qM ?_;go_wp2_with(first|(refine qe ?_;clear hM;intro g W hM));refine' uX hM rfl rfl Tryz.isAgg91 Tryz.sizeOf91 rfl ?_ ?_ ⟨?_,hM.below⟩;rotate_left 2
 ·repeat constructor
 ·rfl
 ·rfl
theorem kU(ax ay bx b_y c:Int)(w:World):
 Calls Tryz.prog 33 #[.agg #[Iv ax,Iv ay],.agg #[Iv bx,Iv b_y],Iv c] w fun e w'=>e= .returned (.agg (zF ax ay bx b_y c).cells.toArray)∧Below w.heap.size w w':=by
 by_cases he:ax=bx∧ay=b_y
 ·have HT:Hid (zF ax ay bx b_y c=av 1 ax ay bx b_y c 0):=hide (by unfold zF;rw[if_pos he]);obtain⟨rfl,rfl⟩:=he;have hM:=qo w;go_enter Tryz.func33,Tryz.ntmps33;go_wp2_with(first|(refine qe ?_;clear hM;intro g W hM))
  all_goals
   refine' uX hM rfl rfl Tryz.isAgg91 Tryz.sizeOf91 rfl ?_ ?_ ⟨?_,hM.below⟩;rotate_left 2
   ·repeat constructor
   ·rfl
   ·rw[HT.out];rfl
 ·have HT:Hid (zF ax ay bx b_y c=av 1 ax ay bx b_y (qO ax ay bx b_y).1 (zk ax ay bx b_y)):=hide (by unfold zF;rw[if_neg he])
  have hne:(ax==bx&&ay==b_y)=false:=by
   rw[Bool.eq_false_iff];simp;intro h1 h2;exact he ⟨h1,h2⟩
  have hq:((ax==bx)=false)∨((ax==bx)=true∧(ay==b_y)=false):=by
   rcases h:(ax==bx)with _|_
   ·exact .inl rfl
   ·rw[h]at hne;exact .inr ⟨rfl,by simpa using hne⟩
  clear he hne;rcases hq with hx|⟨hx,hy⟩
  all_goals
   have hM:=qo w;go_enter Tryz.func33,Tryz.ntmps33;go_upto_region 4 with(first|(refine qe ?_;clear hM;intro g W hM)|(refine qt (yF _ _ _ _ _) ?_;clear hM;intro W1 hM));refine' gV hM qM (.tmp 7) rfl ?_ ?_;rotate_left 1;(·repeat constructor);(clear hM;intro W hM hK hne);refine kP 0 hM hK ?_;refine qj ?_
   first|refine kL 2 hM hK ?_|refine kM 2 hM hK ?_
   refine qj ?_
   first|refine kL 3 hM hK ?_|refine kM 3 hM hK ?_
   refine qj ?_;refine UY (i:=1) (j:=4) (ym rfl) (ym rfl) qM rfl rfl (fun K' hK'=> ?_) (fun K' hK'=> ?_)
   ·
    first
     |(refine' Jv hM rfl rfl ?_ ?_ ?_ ?_;rotate_left 3;(·repeat constructor);(·exact ur rfl);(·exact rfl))
     |(refine' Vg hM rfl rfl ?_ ?_ ?_ ?_ ?_;rotate_left 4;(·repeat constructor);(·exact Zg rfl);(·exact bQ rfl);(·repeat constructor))
    refine hK'.out _ _ (jh hM hK) ?_;clear hK' K';refine qj ?_;refine kP 5 hM hK ?_;refine qj ?_;refine kT (i:=4) (ym rfl) qM rfl (fun K' hK'=> ?_);go_wp2_with(first|(refine qt (yG _ _ _ _ _) ?_;clear hM;intro W1 hM));refine hK'.out _ _ (jh hM hK) ?_;clear hK' K';refine qj ?_;refine' vC hM (i:=6) (ym rfl) qM rfl rfl rfl ?_ ?_ ?_ ?_ ?_ ?_ ?_ hK hne ?_;rotate_left 6;(·constructor);(·repeat constructor);(·repeat constructor);(·repeat constructor);(·exact bQ rfl);(·rfl);(·exact yf rfl);(clear hM hK;intro W hM hK);refine qj ?_;refine kP 7 hM hK ?_;refine qj ?_;refine' vC hM (i:=8) (ym rfl) qM rfl rfl rfl ?_ ?_ ?_ ?_ ?_ ?_ ?_ hK hne ?_;rotate_left 6;(·constructor);(·repeat constructor);(·repeat constructor);(·repeat constructor);(·exact bQ rfl);(·rfl);(·exact yf rfl);(clear hM hK;intro W hM hK);refine qj ?_;refine qp qM ?_;go_wp2_with(first|(refine qe ?_;clear hM;intro g W hM));refine' uX hM rfl rfl Tryz.isAgg91 Tryz.sizeOf91 rfl ?_ ?_ ⟨?_,hM.below⟩;rotate_left 2
    ·repeat constructor
    ·rfl
    ·rw[HT.out];rfl
   ·
    go_wp2_with(first|(refine qt (yG _ _ _ _ _) ?_;clear hM;intro W1 hM));refine hK'.out _ _ (jh hM hK) ?_;clear hK' K';refine qj ?_;refine kT (i:=1) (ym rfl) qM rfl (fun K' hK'=> ?_)
    first
     |(refine' Jv hM rfl rfl ?_ ?_ ?_ ?_;rotate_left 3;(·repeat constructor);(·exact ur rfl);(·exact rfl))
     |(refine' Vg hM rfl rfl ?_ ?_ ?_ ?_ ?_;rotate_left 4;(·repeat constructor);(·exact Zg rfl);(·exact bQ rfl);(·repeat constructor))
    refine hK'.out _ _ (jh hM hK) ?_;clear hK' K';refine qj ?_;refine kP 5 hM hK ?_;refine qj ?_;refine' vC hM (i:=6) (ym rfl) qM rfl rfl rfl ?_ ?_ ?_ ?_ ?_ ?_ ?_ hK hne ?_;rotate_left 6;(·constructor);(·repeat constructor);(·repeat constructor);(·repeat constructor);(·exact bQ rfl);(·rfl);(·exact yf rfl);(clear hM hK;intro W hM hK);refine qj ?_;refine kP 7 hM hK ?_;refine qj ?_;refine' vC hM (i:=8) (ym rfl) qM rfl rfl rfl ?_ ?_ ?_ ?_ ?_ ?_ ?_ hK hne ?_;rotate_left 6;(·constructor);(·repeat constructor);(·repeat constructor);(·repeat constructor);(·exact bQ rfl);(·rfl);(·exact yf rfl);(clear hM hK;intro W hM hK);refine qj ?_;refine qp qM ?_;go_wp2_with(first|(refine qe ?_;clear hM;intro g W hM));refine' uX hM rfl rfl Tryz.isAgg91 Tryz.sizeOf91 rfl ?_ ?_ ⟨?_,hM.below⟩;rotate_left 2
    ·repeat constructor
    ·rfl
    ·rw[HT.out];rfl
theorem Wv(a b:Int):qz (jl a b):=by
 rw[VY];unfold qz;omega
theorem si(fx fy c:Int)(x:En)(hc:0≤x.crs)(hc2:x.crs≤129599999)(w:World):
 Calls Tryz.prog 82 #[.agg #[Iv fx,Iv fy],Iv c,.agg x.cells.toArray] w fun e w'=>e= .returned (.tuple #[.agg (ux fx fy c x).1.cells.toArray,Iv (ux fx fy c x).2])∧Below w.heap.size w w':=by
 have hM:=qo w;go_enter Tryz.func82,Tryz.ntmps82;go_upto_region 15 with(first|(refine qe ?_;clear hM;intro g W hM)|(go_at_call 70;(with_reducible refine(jY _ _ _ _ ?_ ?_ _ _ rfl).mono ?_);(·first|assumption|(unfold qz;omega));(·first|assumption|(unfold qz;omega));rintro e W1 ⟨rfl,hb⟩;replace hM:=qD hM hb;clear hb)|(refine qt (gH _ _ _ _ _ _ _) ?_;clear hM;intro W1 hM)|(refine qt (Vd _ _ _ _ _ _ _ _ rfl) ?_;clear hM;intro W1 hM)|(refine qt (Gl _ _ _ _ _ _ _ _ rfl) ?_;clear hM;intro W1 hM)|(refine qt (kU _ _ _ _ _ _) ?_;clear hM;intro W1 hM))
 all_goals first
  |(refine' qU hM rfl rfl Tryz.isAgg91 Tryz.sizeOf91 rfl rfl ?_ ?_ ⟨?_,hM.below⟩;rotate_left 2;(·repeat constructor);(·rfl);(·refine' jo ?_ ?_;rotate_left 1;(·(unfold ux;(try dsimp only);(repeat(first|(refine(if_pos ?_).trans ?_;(·exact zMResA0))|(refine(if_neg ?_).trans ?_;(·exact zMResA0))));rfl));(·first|rfl|exact congrArg Tk.cells (kI _ _ _ _ _ _))))
  |skip
 all_goals
  refine' gV hM qM (.tmp 13) rfl ?_ ?_;rotate_left 1;(·repeat constructor);(clear hM;intro W hM hK hne);refine kP 0 hM hK ?_;refine qj ?_;refine kP 1 hM hK ?_;refine qj ?_
  first|refine kL 2 hM hK ?_|refine kM 2 hM hK ?_
  refine qj ?_;refine kP 3 hM hK ?_;refine qj ?_;refine kP 4 hM hK ?_;refine qj ?_
  first|refine kL 5 hM hK ?_|refine kM 5 hM hK ?_
  refine qj ?_;refine kP 6 hM hK ?_;refine qj ?_;refine' vC hM (i:=7) (ym rfl) qM rfl rfl rfl ?_ ?_ ?_ ?_ ?_ ?_ ?_ hK hne ?_;rotate_left 6;(·constructor);(·repeat constructor);(·repeat constructor);(·repeat constructor);(·exact bQ rfl);(·rfl);(·exact yf rfl);(clear hM hK;intro W hM hK);refine qj ?_;refine kP 8 hM hK ?_;refine qj ?_;refine' vC hM (i:=9) (ym rfl) qM rfl rfl rfl ?_ ?_ ?_ ?_ ?_ ?_ ?_ hK hne ?_;rotate_left 6;(·constructor);(·repeat constructor);(·repeat constructor);(·repeat constructor);(·exact bQ rfl);(·rfl);(·exact yf rfl);(clear hM hK;intro W hM hK);refine qj ?_;refine qp qM ?_;go_wp2_with(first|(refine qe ?_;clear hM;intro g W hM)|(go_at_call 70;(with_reducible refine(jY _ _ _ _ ?_ ?_ _ _ rfl).mono ?_);(·first|assumption|(unfold qz;omega));(·first|assumption|(unfold qz;omega));rintro e W1 ⟨rfl,hb⟩;replace hM:=qD hM hb;clear hb)|(refine qt (gH _ _ _ _ _ _ _) ?_;clear hM;intro W1 hM)|(refine qt (Vd _ _ _ _ _ _ _ _ rfl) ?_;clear hM;intro W1 hM)|(refine qt (Gl _ _ _ _ _ _ _ _ rfl) ?_;clear hM;intro W1 hM)|(refine qt (kU _ _ _ _ _ _) ?_;clear hM;intro W1 hM));refine' qU hM rfl rfl Tryz.isAgg91 Tryz.sizeOf91 rfl rfl ?_ ?_ ⟨?_,hM.below⟩;rotate_left 2
  ·repeat constructor
  ·rfl
  ·refine' jo ?_ ?_;rotate_left 1;(·(unfold ux;(try dsimp only);(repeat(first|(refine(if_pos ?_).trans ?_;(·exact zMResA0))|(refine(if_neg ?_).trans ?_;(·exact zMResA0))));rfl));(·first|rfl|exact congrArg Tk.cells (kI _ _ _ _ _ _))
theorem sr(fx fy:Int)(x y:En)(hc:qz x.crs)(hy:qz y.crs)(ty:0≤y.ty)(w:World):
 Calls Tryz.prog 88 #[.agg #[Iv fx,Iv fy],.agg x.cells.toArray,.agg y.cells.toArray] w fun e w'=>e= .returned (.tuple #[.agg (kK fx fy x y).1.cells.toArray,Iv (kK fx fy x y).2])∧Below w.heap.size w w':=by
 have hT:=Wv y.crs 64800000;have hM:=qo w;go_enter Tryz.func88,Tryz.ntmps88;go_upto_region 6 with(first|(go_at_call 70;(with_reducible refine(jY _ _ _ _ ?_ ?_ _ _ rfl).mono ?_);(·first|assumption|(unfold qz;omega));(·first|assumption|(unfold qz;omega));rintro e W1 ⟨rfl,hb⟩;replace hM:=qD hM hb;clear hb)|(refine qt (QK _ _ _ _ _ _ _ _ _ _ rfl) ?_;clear hM;intro W1 hM)|(refine qt (tD _ _ _ _ _ _ _) ?_;clear hM;intro W1 hM)|(refine qt (xH _ _ _ _ _ _) ?_;clear hM;intro W1 hM)|(refine qt (gH _ _ _ _ _ _ _) ?_;clear hM;intro W1 hM)|(go_at_call 163;(with_reducible refine(yu _ ?_ _).mono ?_);(·first|assumption|(unfold qz;omega));rintro e W1 ⟨rfl,rfl⟩)|refine zC ?_|((with_reducible refine QL ?_);refine tM (fun hg=> ?_) (fun hg=> ?_)<;>simp[go_sem,Region.wanted]at hg)|(refine qe ?_;clear hM;intro g W hM))
 all_goals first
  |(refine' qU hM rfl rfl Tryz.isAgg91 Tryz.sizeOf91 rfl rfl ?_ ?_ ⟨?_,hM.below⟩;rotate_left 2;(·repeat constructor);(·rfl);(·refine' jo ?_ ?_;rotate_left 1;(·exact zMResA1);(·first|rfl|exact congrArg Tk.cells (kI _ _ _ _ _ _))))
  |skip
 refine gW hM qM ?_;(clear hM;intro W hM hK);refine kP 0 hM hK ?_;refine qj ?_
 first|refine kL 1 hM hK ?_|refine kM 1 hM hK ?_
 refine qj ?_;refine kP 2 hM hK ?_;refine qj ?_;refine kP 3 hM hK ?_;refine qj ?_
 first|refine kL 4 hM hK ?_|refine kM 4 hM hK ?_
 refine qj ?_;refine UY (i:=5) (j:=10) (ym rfl) (ym rfl) qM rfl rfl (fun K' hK'=> ?_) (fun K' hK'=> ?_)
 ·
  go_wp2_with(first|(go_at_call 163;(with_reducible refine(yu _ ?_ _).mono ?_);(·first|assumption|(unfold qz;omega));rintro e W1 ⟨rfl,rfl⟩)|(go_at_call 70;(with_reducible refine(jY _ _ _ _ ?_ ?_ _ _ rfl).mono ?_);(·first|assumption|(unfold qz;omega));(·first|assumption|(unfold qz;omega));rintro e W1 ⟨rfl,hb⟩;replace hM:=qD hM hb;clear hb));refine hK'.out _ _ (jh hM hK) ?_;clear hK' K';refine qj ?_;refine UY (i:=6) (j:=10) (ym rfl) (ym rfl) qM rfl rfl (fun K' hK'=> ?_) (fun K' hK'=> ?_)
  ·
   go_wp2_with(first|(go_at_call 163;(with_reducible refine(yu _ ?_ _).mono ?_);(·first|assumption|(unfold qz;omega));rintro e W1 ⟨rfl,rfl⟩)|(go_at_call 70;(with_reducible refine(jY _ _ _ _ ?_ ?_ _ _ rfl).mono ?_);(·first|assumption|(unfold qz;omega));(·first|assumption|(unfold qz;omega));rintro e W1 ⟨rfl,hb⟩;replace hM:=qD hM hb;clear hb));refine hK'.out _ _ (jh hM hK) ?_;clear hK' K';refine qj ?_;refine kP 7 hM hK ?_;refine qj ?_;refine kP 8 hM hK ?_;refine qj ?_;refine kP 9 hM hK ?_;refine qj ?_;refine kT (i:=10) (ym rfl) qM rfl (fun K' hK'=> ?_);refine' vS hM rfl ?_ rfl ?_;rotate_left 1;(·exact Sv rfl);(have hKo:=hK;clear hK hM;intro g W hM;have hne:=wR hM hKo;have hK:=VL hM hKo;clear hKo);refine hK'.out _ _ (jh hM hK) ?_;clear hK' K';refine qj ?_;refine' vC hM (i:=11) (ym rfl) qM rfl rfl rfl ?_ ?_ ?_ ?_ ?_ ?_ ?_ hK hne ?_;rotate_left 6;(·constructor);(·repeat constructor);(·repeat constructor);(·repeat constructor);(·exact bQ rfl);(·rfl);(·exact yf rfl);(clear hM hK;intro W hM hK);refine qj ?_;refine kP 12 hM hK ?_;refine qj ?_;refine qp qM ?_;go_wp2_with(first|(go_at_call 70;(with_reducible refine(jY _ _ _ _ ?_ ?_ _ _ rfl).mono ?_);(·first|assumption|(unfold qz;omega));(·first|assumption|(unfold qz;omega));rintro e W1 ⟨rfl,hb⟩;replace hM:=qD hM hb;clear hb)|(refine qt (QK _ _ _ _ _ _ _ _ _ _ rfl) ?_;clear hM;intro W1 hM)|(refine qt (tD _ _ _ _ _ _ _) ?_;clear hM;intro W1 hM)|(refine qt (xH _ _ _ _ _ _) ?_;clear hM;intro W1 hM)|(refine qt (gH _ _ _ _ _ _ _) ?_;clear hM;intro W1 hM)|(go_at_call 163;(with_reducible refine(yu _ ?_ _).mono ?_);(·first|assumption|(unfold qz;omega));rintro e W1 ⟨rfl,rfl⟩)|refine zC ?_|((with_reducible refine QL ?_);refine tM (fun hg=> ?_) (fun hg=> ?_)<;>simp[go_sem,Region.wanted]at hg)|(refine qe ?_;clear hM;intro g W hM))
   all_goals
    refine' qU hM rfl rfl Tryz.isAgg91 Tryz.sizeOf91 rfl rfl ?_ ?_ ⟨?_,hM.below⟩;rotate_left 2
    ·repeat constructor
    ·rfl
    ·refine' jo ?_ ?_;rotate_left 1;(·exact zMResA1);(·first|rfl|exact congrArg Tk.cells (kI _ _ _ _ _ _))
  ·
   refine' vS hM rfl ?_ rfl ?_;rotate_left 1;(·exact Sv rfl);(have hKo:=hK;clear hK hM;intro g W hM;have hne:=wR hM hKo;have hK:=VL hM hKo;clear hKo);refine hK'.out _ _ (jh hM hK) ?_;clear hK' K';refine qj ?_;refine kT (i:=6) (ym rfl) qM rfl (fun K' hK'=> ?_);go_wp2_with(first|(go_at_call 163;(with_reducible refine(yu _ ?_ _).mono ?_);(·first|assumption|(unfold qz;omega));rintro e W1 ⟨rfl,rfl⟩)|(go_at_call 70;(with_reducible refine(jY _ _ _ _ ?_ ?_ _ _ rfl).mono ?_);(·first|assumption|(unfold qz;omega));(·first|assumption|(unfold qz;omega));rintro e W1 ⟨rfl,hb⟩;replace hM:=qD hM hb;clear hb));refine hK'.out _ _ (jh hM hK) ?_;clear hK' K';refine qj ?_;refine kP 7 hM hK ?_;refine qj ?_;refine kP 8 hM hK ?_;refine qj ?_;refine kP 9 hM hK ?_;refine qj ?_;refine' vC hM (i:=11) (ym rfl) qM rfl rfl rfl ?_ ?_ ?_ ?_ ?_ ?_ ?_ hK hne ?_;rotate_left 6;(·constructor);(·repeat constructor);(·repeat constructor);(·repeat constructor);(·exact bQ rfl);(·rfl);(·exact yf rfl);(clear hM hK;intro W hM hK);refine qj ?_;refine kP 12 hM hK ?_;refine qj ?_;refine qp qM ?_;go_wp2_with(first|(go_at_call 70;(with_reducible refine(jY _ _ _ _ ?_ ?_ _ _ rfl).mono ?_);(·first|assumption|(unfold qz;omega));(·first|assumption|(unfold qz;omega));rintro e W1 ⟨rfl,hb⟩;replace hM:=qD hM hb;clear hb)|(refine qt (QK _ _ _ _ _ _ _ _ _ _ rfl) ?_;clear hM;intro W1 hM)|(refine qt (tD _ _ _ _ _ _ _) ?_;clear hM;intro W1 hM)|(refine qt (xH _ _ _ _ _ _) ?_;clear hM;intro W1 hM)|(refine qt (gH _ _ _ _ _ _ _) ?_;clear hM;intro W1 hM)|(go_at_call 163;(with_reducible refine(yu _ ?_ _).mono ?_);(·first|assumption|(unfold qz;omega));rintro e W1 ⟨rfl,rfl⟩)|refine zC ?_|((with_reducible refine QL ?_);refine tM (fun hg=> ?_) (fun hg=> ?_)<;>simp[go_sem,Region.wanted]at hg)|(refine qe ?_;clear hM;intro g W hM))
   all_goals
    refine' qU hM rfl rfl Tryz.isAgg91 Tryz.sizeOf91 rfl rfl ?_ ?_ ⟨?_,hM.below⟩;rotate_left 2
    ·repeat constructor
    ·rfl
    ·refine' jo ?_ ?_;rotate_left 1;(·exact zMResA1);(·first|rfl|exact congrArg Tk.cells (kI _ _ _ _ _ _))
 ·
  refine' vS hM rfl ?_ rfl ?_;rotate_left 1;(·exact Sv rfl);(have hKo:=hK;clear hK hM;intro g W hM;have hne:=wR hM hKo;have hK:=VL hM hKo;clear hKo);refine hK'.out _ _ (jh hM hK) ?_;clear hK' K';refine qj ?_;refine kT (i:=5) (ym rfl) qM rfl (fun K' hK'=> ?_);go_wp2_with(first|(go_at_call 163;(with_reducible refine(yu _ ?_ _).mono ?_);(·first|assumption|(unfold qz;omega));rintro e W1 ⟨rfl,rfl⟩)|(go_at_call 70;(with_reducible refine(jY _ _ _ _ ?_ ?_ _ _ rfl).mono ?_);(·first|assumption|(unfold qz;omega));(·first|assumption|(unfold qz;omega));rintro e W1 ⟨rfl,hb⟩;replace hM:=qD hM hb;clear hb));refine hK'.out _ _ (jh hM hK) ?_;clear hK' K';refine qj ?_;refine kT (i:=6) (ym rfl) qM rfl (fun K' hK'=> ?_);go_wp2_with(first|(go_at_call 163;(with_reducible refine(yu _ ?_ _).mono ?_);(·first|assumption|(unfold qz;omega));rintro e W1 ⟨rfl,rfl⟩)|(go_at_call 70;(with_reducible refine(jY _ _ _ _ ?_ ?_ _ _ rfl).mono ?_);(·first|assumption|(unfold qz;omega));(·first|assumption|(unfold qz;omega));rintro e W1 ⟨rfl,hb⟩;replace hM:=qD hM hb;clear hb));refine hK'.out _ _ (jh hM hK) ?_;clear hK' K';refine qj ?_;refine kP 7 hM hK ?_;refine qj ?_;refine kP 8 hM hK ?_;refine qj ?_;refine kP 9 hM hK ?_;refine qj ?_;refine' vC hM (i:=11) (ym rfl) qM rfl rfl rfl ?_ ?_ ?_ ?_ ?_ ?_ ?_ hK hne ?_;rotate_left 6;(·constructor);(·repeat constructor);(·repeat constructor);(·repeat constructor);(·exact bQ rfl);(·rfl);(·exact yf rfl);(clear hM hK;intro W hM hK);refine qj ?_;refine kP 12 hM hK ?_;refine qj ?_;refine qp qM ?_;go_wp2_with(first|(go_at_call 70;(with_reducible refine(jY _ _ _ _ ?_ ?_ _ _ rfl).mono ?_);(·first|assumption|(unfold qz;omega));(·first|assumption|(unfold qz;omega));rintro e W1 ⟨rfl,hb⟩;replace hM:=qD hM hb;clear hb)|(refine qt (QK _ _ _ _ _ _ _ _ _ _ rfl) ?_;clear hM;intro W1 hM)|(refine qt (tD _ _ _ _ _ _ _) ?_;clear hM;intro W1 hM)|(refine qt (xH _ _ _ _ _ _) ?_;clear hM;intro W1 hM)|(refine qt (gH _ _ _ _ _ _ _) ?_;clear hM;intro W1 hM)|(go_at_call 163;(with_reducible refine(yu _ ?_ _).mono ?_);(·first|assumption|(unfold qz;omega));rintro e W1 ⟨rfl,rfl⟩)|refine zC ?_|((with_reducible refine QL ?_);refine tM (fun hg=> ?_) (fun hg=> ?_)<;>simp[go_sem,Region.wanted]at hg)|(refine qe ?_;clear hM;intro g W hM))
  all_goals
   refine' qU hM rfl rfl Tryz.isAgg91 Tryz.sizeOf91 rfl rfl ?_ ?_ ⟨?_,hM.below⟩;rotate_left 2
   ·repeat constructor
   ·rfl
   ·refine' jo ?_ ?_;rotate_left 1;(·exact zMResA1);(·first|rfl|exact congrArg Tk.cells (kI _ _ _ _ _ _))
theorem Kk(fx fy:Int)(x:En)(ht:x.tn=1∨x.tn=2)(hr:0≤x.rad)(hr2:x.rad≤2000000)(w:World):
 Calls Tryz.prog 83 #[.agg #[Iv fx,Iv fy],.agg x.cells.toArray] w fun e w'=>e= .returned (.tuple #[.agg (vA fx fy x).1.cells.toArray,Iv (vA fx fy x).2])∧Below w.heap.size w w':=by
 obtain⟨v0,v1,v2,v3,v4,e0,hF,hb0,hb1⟩:=YR fx fy x.mx x.my x.ex x.ey (decide (x.tn=2));have HF:=hide hF
 have HT:Hid (vA fx fy x=if e0≠0 then(Tk.zero,e0)else if v2-x.rad>60∨v2-x.rad< -60 then(Tk.zero,10)else
  if(jJ v0 v1 v2 v3 v4 0).2.2.2≠0 then(Tk.zero,(jJ v0 v1 v2 v3 v4 0).2.2.2)else
  if(jJ v0 v1 v2 v3 v4 (zq v0 v1 v2 v3 v4)).2.2.2≠0 then(Tk.zero,(jJ v0 v1 v2 v3 v4 (zq v0 v1 v2 v3 v4)).2.2.2)else
  (⟨2,fx,fy,x.ex,x.ey,v0,v1,v2,v3,v4,(jJ v0 v1 v2 v3 v4 0).2.2.1,(jJ v0 v1 v2 v3 v4 (zq v0 v1 v2 v3 v4)).2.2.1,zq v0 v1 v2 v3 v4,0,false⟩,0)):=hide (by unfold vA;rw[hF])
 clear hF;rcases ht with htn|htn
 ·have htq:=hide htn;have AR:=fun W=>aC fx fy x.mx x.my x.ex x.ey W v0 v1 v2 v3 v4 e0 (by rw[←HF.out,htn];rfl)
  have hM:=qo w;go_enter Tryz.func83,Tryz.ntmps83;go_wp2_with(first|(refine qe ?_;clear hM;intro g W hM)|(refine qt (AR _) ?_;clear hM;intro W1 hM)|(refine qt (tI _ _ _ _ _ _ _ _ rfl) ?_;clear hM;intro W1 hM)|(refine qt (tH _ _ _ _ _ _) ?_;clear hM;intro W1 hM)|(go_at_call 67;(with_reducible refine(kV _ ?_ ?_ _).mono ?_);(·(unfold qz;omega));(·omega);rintro e W1 ⟨rfl,rfl⟩))
  all_goals
   refine' qU hM rfl rfl Tryz.isAgg91 Tryz.sizeOf91 rfl rfl ?_ ?_ ⟨?_,hM.below⟩;rotate_left 2
   ·repeat constructor
   ·rfl
   ·refine' jo ?_ ?_;rotate_left 1;(·(rw[HT.out];(repeat(first|(refine(if_pos ?_).trans ?_;(·exact zMResA0))|(refine(if_neg ?_).trans ?_;(·exact zMResA0))));rfl));(·rfl)
 ·have htq:=hide htn;have AR:=fun W=>aD fx fy x.mx x.my x.ex x.ey W v0 v1 v2 v3 v4 e0 (by rw[←HF.out,htn];rfl)
  have hM:=qo w;go_enter Tryz.func83,Tryz.ntmps83;go_wp2_with(first|(refine qe ?_;clear hM;intro g W hM)|(refine qt (AR _) ?_;clear hM;intro W1 hM)|(refine qt (tI _ _ _ _ _ _ _ _ rfl) ?_;clear hM;intro W1 hM)|(refine qt (tH _ _ _ _ _ _) ?_;clear hM;intro W1 hM)|(go_at_call 67;(with_reducible refine(kV _ ?_ ?_ _).mono ?_);(·(unfold qz;omega));(·omega);rintro e W1 ⟨rfl,rfl⟩))
  all_goals
   refine' qU hM rfl rfl Tryz.isAgg91 Tryz.sizeOf91 rfl rfl ?_ ?_ ⟨?_,hM.below⟩;rotate_left 2
   ·repeat constructor
   ·rfl
   ·refine' jo ?_ ?_;rotate_left 1;(·(rw[HT.out];(repeat(first|(refine(if_pos ?_).trans ?_;(·exact zMResA0))|(refine(if_neg ?_).trans ?_;(·exact zMResA0))));rfl));(·rfl)
theorem Ww(a b:Int)(ha:qz a)(hb:qz b)(w:World):
 Calls Tryz.prog 159 #[Iv a,Iv b] w fun e w'=>e= .returned (.tuple #[Iv (qL 1 a 1 b).1,Iv (qL 1 a 1 b).2])∧∃n,w'=w.drewN n:=by
 go_enter Tryz.func159,Tryz.ntmps159;go_wp2_with(go_at_call 71;refine(Qh _ _ _ (by first|assumption|exact uj) (by first|assumption|exact uj) qY _).mono ?_;rintro e w' ⟨rfl,m,rfl⟩);go_ret2;exact⟨rfl,_,rfl⟩
theorem Un(fx fy alt:Int)(x:En)(spd bank oalt gr:Int)(h1: -200000≤alt)(h1b:alt≤6000000)(h2: -200000≤x.lo)(h2b:x.lo≤6000000)(hg:1≤gr)(hgb:gr≤100000)(hc:qz x.crs)(w:World):
 Calls Tryz.prog 84 #[.agg #[Iv fx,Iv fy],Iv alt,.agg x.cells.toArray,.agg #[Iv spd,Iv bank,Iv oalt,Iv gr]] w fun e w'=>e= .returned (.tuple #[.agg (kq fx fy alt x gr).1.cells.toArray,Iv (kq fx fy alt x gr).2])∧Below w.heap.size w w':=by
 have NB:=sL h1 h2b hg;obtain⟨N,hN⟩:∃N,Qj alt x.lo gr=N:=⟨_,rfl⟩;have HN:=hide hN;rw[hN]at NB;have HT:Hid (kq fx fy alt x gr=if N>8000000 then(Tk.zero,2)else bi fx fy x.crs N):=hide (by unfold kq;rw[hN]);clear hN;by_cases hlt:alt<x.lo
 ·have CE:=fun W=>Ww ((x.lo-alt)*6000) gr yq yq W
  rw[Dd hlt h1 h2b hg,HN.out]at CE;have hM:=qo w;go_enter Tryz.func84,Tryz.ntmps84;go_wp2_with(first|(refine qe ?_;clear hM;intro g W hM)|(go_at_call 159;(with_reducible refine(CE _).mono ?_);rintro e W1 ⟨rfl,n,rfl⟩;replace hM:=zA hM n)|(go_at_call 85;(with_reducible refine(Kj _ _ _ _ ?_ ?_ _).mono ?_);(·first|assumption|(unfold qz;omega));(·first|assumption|(unfold qz;omega));rintro e W1 ⟨rfl,hb⟩;replace hM:=qD hM hb;clear hb))
  all_goals
   refine' qU hM rfl rfl Tryz.isAgg91 Tryz.sizeOf91 rfl rfl ?_ ?_ ⟨?_,hM.below⟩;rotate_left 2
   ·repeat constructor
   ·rfl
   ·rw[HT.out];first|rw[if_pos qg];rfl|rw[if_neg qg];rfl
 ·have hN0:N=0:=by rw[←HN.out];unfold Qj;rw[if_neg hlt]
  subst hN0;have hM:=qo w;go_enter Tryz.func84,Tryz.ntmps84;go_wp2_with(first|(refine qe ?_;clear hM;intro g W hM)|(go_at_call 159;(with_reducible refine(CE _).mono ?_);rintro e W1 ⟨rfl,n,rfl⟩;replace hM:=zA hM n)|(go_at_call 85;(with_reducible refine(Kj _ _ _ _ ?_ ?_ _).mono ?_);(·first|assumption|(unfold qz;omega));(·first|assumption|(unfold qz;omega));rintro e W1 ⟨rfl,hb⟩;replace hM:=qD hM hb;clear hb))
  all_goals
   refine' qU hM rfl rfl Tryz.isAgg91 Tryz.sizeOf91 rfl rfl ?_ ?_ ⟨?_,hM.below⟩;rotate_left 2
   ·repeat constructor
   ·rfl
   ·rw[HT.out];first|rw[if_pos qg];rfl|rw[if_neg qg];rfl
theorem pX(fx fy:Int)(x:En)(hd:0≤x.dst)(hd2:x.dst≤2000000)(hc:qz x.crs)(w:World):
 Calls Tryz.prog 86 #[.agg #[Iv fx,Iv fy],.agg x.cells.toArray] w fun e w'=>e= .returned (.tuple #[.agg (vV fx fy x).1.cells.toArray,Iv (vV fx fy x).2])∧Below w.heap.size w w':=by
 obtain⟨px,py,pe,hP⟩:∃px py pe,zn fx fy x.crs 60000=(px,py,pe):=⟨_,_,_,rfl⟩;have HP:=hide hP;have RA:=fun W=>jY fx fy x.crs 60000 hc yq W _ rfl
 rw[hP]at RA;clear hP;have ob:=Rv fx fy px py x.mx x.my;obtain⟨o,al,oe,hO⟩:∃o al oe,Kb fx fy px py x.mx x.my=(o,al,oe):=⟨_,_,_,rfl⟩;have HO:=hide hO;have OA:=fun W=>Vd fx fy px py x.mx x.my W _ rfl
 rw[hO]at OA ob;clear hO
 have HT:Hid (vV fx fy x=if pe≠0 then(Tk.zero,pe)else if oe≠0 then(Tk.zero,oe)else if o>x.dst∨o< -x.dst then(Tk.zero,10)else if¬(al-kE (x.dst*x.dst-o*o).toNat<0)then bi fx fy x.crs (al-kE (x.dst*x.dst-o*o).toNat)else
  if al+kE (x.dst*x.dst-o*o).toNat<0 then(Tk.zero,10)else bi fx fy x.crs (al+kE (x.dst*x.dst-o*o).toNat)):=hide (by unfold vV;rw[HP.out];dsimp only;rw[HO.out])
 by_cases hr:o>x.dst∨o< -x.dst
 ·have hM:=qo w;go_enter Tryz.func86,Tryz.ntmps86;go_wp2_with(first|(refine qe ?_;clear hM;intro g W hM)|(refine qt (RA _) ?_;clear hM;intro W1 hM)|(refine qt (OA _) ?_;clear hM;intro W1 hM))
  all_goals
   refine' qU hM rfl rfl Tryz.isAgg91 Tryz.sizeOf91 rfl rfl ?_ ?_ ⟨?_,hM.below⟩;rotate_left 2
   ·repeat constructor
   ·rfl
   ·refine' jo ?_ ?_;rotate_left 1;(·(rw[HT.out];(repeat(first|(refine(if_pos ?_).trans ?_;(·exact zMResA0))|(refine(if_neg ?_).trans ?_;(·exact zMResA0))));rfl));(·rfl)
 ·have q1:=Ut (a:=x.dst) (b:=x.dst) (k:=2000000) qg qg qg;have q2:=Ut (a:=o) (b:=o) (k:=2000000) qg qg qg;have hq:=Ru (x.dst*x.dst-o*o).toNat;have hr1:o≤x.dst:=qg;have hr2: -x.dst≤o:=qg;clear hr;have SQ:=fun W=>JT (x.dst*x.dst-o*o) yq W
  obtain⟨h,hh⟩:∃h,kE (x.dst*x.dst-o*o).toNat=h:=⟨_,rfl⟩;rw[hh]at SQ HT hq;clear hh;have hM:=qo w;go_enter Tryz.func86,Tryz.ntmps86;go_wp2_with(first|(refine qe ?_;clear hM;intro g W hM)|(refine qt (RA _) ?_;clear hM;intro W1 hM)|(refine qt (OA _) ?_;clear hM;intro W1 hM)|(go_at_call 90;(with_reducible refine(SQ _).mono ?_);rintro e W1 ⟨rfl,n,rfl⟩;replace hM:=zA hM n)|(go_at_call 85;(with_reducible refine(Kj _ _ _ _ ?_ ?_ _).mono ?_);(·first|assumption|(unfold qz;omega));(·first|assumption|(unfold qz;omega));rintro e W1 ⟨rfl,hb⟩;replace hM:=qD hM hb;clear hb))
  all_goals
   refine' qU hM rfl rfl Tryz.isAgg91 Tryz.sizeOf91 rfl rfl ?_ ?_ ⟨?_,hM.below⟩;rotate_left 2
   ·repeat constructor
   ·rfl
   ·refine' jo ?_ ?_;rotate_left 1;(·(rw[HT.out];(repeat(first|(refine(if_pos ?_).trans ?_;(·exact zMResA0))|(refine(if_neg ?_).trans ?_;(·exact zMResA0))));rfl));(·rfl)
theorem su(fx fy:Int)(x:En)(hc:qz x.crs)(ht:qz x.tht)(w:World):
 Calls Tryz.prog 87 #[.agg #[Iv fx,Iv fy],.agg x.cells.toArray] w fun e w'=>e= .returned (.tuple #[.agg (uQ fx fy x).1.cells.toArray,Iv (uQ fx fy x).2])∧Below w.heap.size w w':=by
 have hM:=qo w;go_enter Tryz.func87,Tryz.ntmps87;go_wp2_with(first|(refine qe ?_;clear hM;intro g W hM)|(go_at_call 70;(with_reducible refine(jY _ _ _ _ ?_ ?_ _ _ rfl).mono ?_);(·first|assumption|(unfold qz;omega));(·first|assumption|(unfold qz;omega));rintro e W1 ⟨rfl,hb⟩;replace hM:=qD hM hb;clear hb)|(refine qt (QK _ _ _ _ _ _ _ _ _ _ rfl) ?_;clear hM;intro W1 hM)|(refine qt (tD _ _ _ _ _ _ _) ?_;clear hM;intro W1 hM)|(refine qt (xH _ _ _ _ _ _) ?_;clear hM;intro W1 hM))
 all_goals
  refine' qU hM rfl rfl Tryz.isAgg91 Tryz.sizeOf91 rfl rfl ?_ ?_ ⟨?_,hM.below⟩;rotate_left 2
  ·repeat constructor
  ·rfl
  ·refine' jo ?_ ?_;rotate_left 1;(·(unfold uQ;(try dsimp only);(repeat(first|(refine(if_pos ?_).trans ?_;(·exact zMResA0))|(refine(if_neg ?_).trans ?_;(·exact zMResA0))));rfl));(·first|rfl|exact congrArg Tk.cells (kI _ _ _ _ _ _))
end Go.Proofs.YtiegohjobhehcaaGreatDoor
