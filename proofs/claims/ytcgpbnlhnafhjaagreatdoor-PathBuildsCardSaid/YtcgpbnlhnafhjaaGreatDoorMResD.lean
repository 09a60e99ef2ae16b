/-
  resolve: options, Resolve; for all arguments.
-/
import Derived.Test.YtcgpbnlhnafhjaaGreatDoorMLaid25
import Derived.Test.YtcgpbnlhnafhjaaGreatDoorMLineD
import Derived.Test.YtcgpbnlhnafhjaaGreatDoorMMemD
set_option maxRecDepth 100000
set_option maxHeartbeats 16000000
namespace Go.Proofs.YtcgpbnlhnafhjaaGreatDoor
open Go.RowKit
set_option linter.unusedVariables false
set_option linter.unusedSimpArgs false
theorem jX(spd bank oalt gr:Int)(w:World):
 Calls Tryz.prog 29 #[.agg #[Iv spd,Iv bank,Iv oalt,Iv gr]] w fun e w'=>e= .returned (Iv (jY spd bank oalt gr))∧Below w.heap.size w w':=by
 have hM:=qE w;go_enter Tryz.func29,Tryz.ntmps29;go_wp2_with(first|(refine DU ?_;clear hM;intro g W hM))
 all_goals
  go_ret;exact⟨qI (by unfold jY;first|rw[if_pos DL]|rw[if_neg DL]),hM.below⟩
theorem zY(c:Int)(w:World):Calls Tryz.prog 31 #[Iv c] w fun e w'=>e= .returned (.bool (decide (0≤c∧c<129600000)))∧w=w':=by
 by_cases h1:0≤c
 ·by_cases h2:c<129600000
  ·have e2:decide (c<129600000)=true:=decide_eq_true h2;have e3:=hide (decide_eq_true (show 0≤c∧c<129600000 by omega));go_enter Tryz.func31,Tryz.ntmps31;go_wp2_with fail
   all_goals
    go_ret
    first|exact⟨jh e3.out.symm,rfl⟩|exact⟨rfl,rfl⟩
  ·have e2:decide (c<129600000)=false:=decide_eq_false h2;have e3:=hide (decide_eq_false (show¬(0≤c∧c<129600000) by omega));go_enter Tryz.func31,Tryz.ntmps31;go_wp2_with fail
   all_goals
    go_ret
    first|exact⟨jh e3.out.symm,rfl⟩|exact⟨rfl,rfl⟩
 ·have e2:decide (0≤c)=false:=decide_eq_false h1;have e3:=hide (decide_eq_false (show¬(0≤c∧c<129600000) by omega));go_enter Tryz.func31,Tryz.ntmps31;go_wp2_with fail
  all_goals
   go_ret
   first|exact⟨jh e3.out.symm,rfl⟩|exact⟨rfl,rfl⟩
structure vT(x:En):Prop where
 leg:rT x
 crs:qK x.crs
 ex:qK x.ex
 ey:qK x.ey
theorem vT.tyb{x:En}(h:vT x):0≤x.ty:=h.leg.ty.1
theorem yI{p:Tk×Int}:p=(p.1,p.2):=rfl
theorem qV{w W:World}{L:List zw}(hM:qU w W L)(h:jP w):jP W:=fun i n hi=>hM.old (h i n hi)
theorem Mj{x:En}(h:x.ty=1):(x.ty==1)=true∧(x.ty==2)=false∧(x.ty==3)=false∧(x.ty==4)=false∧(x.ty==5)=false∧(x.ty==6)=false∧(x.ty==7)=false∧(x.ty==8)=false∧(x.ty==9)=false∧(x.ty==10)=false∧(x.ty==11)=false∧(x.ty==12)=false∧(x.ty==13)=false∧(x.ty==14)=false∧(x.ty==15)=false∧(x.ty==16)=false∧(x.ty==17)=false:=by rw[h];decide
theorem Mk{x:En}(h:x.ty=2):(x.ty==1)=false∧(x.ty==2)=true∧(x.ty==3)=false∧(x.ty==4)=false∧(x.ty==5)=false∧(x.ty==6)=false∧(x.ty==7)=false∧(x.ty==8)=false∧(x.ty==9)=false∧(x.ty==10)=false∧(x.ty==11)=false∧(x.ty==12)=false∧(x.ty==13)=false∧(x.ty==14)=false∧(x.ty==15)=false∧(x.ty==16)=false∧(x.ty==17)=false:=by rw[h];decide
theorem Ml{x:En}(h:x.ty=3):(x.ty==1)=false∧(x.ty==2)=false∧(x.ty==3)=true∧(x.ty==4)=false∧(x.ty==5)=false∧(x.ty==6)=false∧(x.ty==7)=false∧(x.ty==8)=false∧(x.ty==9)=false∧(x.ty==10)=false∧(x.ty==11)=false∧(x.ty==12)=false∧(x.ty==13)=false∧(x.ty==14)=false∧(x.ty==15)=false∧(x.ty==16)=false∧(x.ty==17)=false:=by rw[h];decide
theorem Mm{x:En}(h:x.ty=4):(x.ty==1)=false∧(x.ty==2)=false∧(x.ty==3)=false∧(x.ty==4)=true∧(x.ty==5)=false∧(x.ty==6)=false∧(x.ty==7)=false∧(x.ty==8)=false∧(x.ty==9)=false∧(x.ty==10)=false∧(x.ty==11)=false∧(x.ty==12)=false∧(x.ty==13)=false∧(x.ty==14)=false∧(x.ty==15)=false∧(x.ty==16)=false∧(x.ty==17)=false:=by rw[h];decide
theorem Mn{x:En}(h:x.ty=5):(x.ty==1)=false∧(x.ty==2)=false∧(x.ty==3)=false∧(x.ty==4)=false∧(x.ty==5)=true∧(x.ty==6)=false∧(x.ty==7)=false∧(x.ty==8)=false∧(x.ty==9)=false∧(x.ty==10)=false∧(x.ty==11)=false∧(x.ty==12)=false∧(x.ty==13)=false∧(x.ty==14)=false∧(x.ty==15)=false∧(x.ty==16)=false∧(x.ty==17)=false:=by rw[h];decide
theorem Mo{x:En}(h:x.ty=6):(x.ty==1)=false∧(x.ty==2)=false∧(x.ty==3)=false∧(x.ty==4)=false∧(x.ty==5)=false∧(x.ty==6)=true∧(x.ty==7)=false∧(x.ty==8)=false∧(x.ty==9)=false∧(x.ty==10)=false∧(x.ty==11)=false∧(x.ty==12)=false∧(x.ty==13)=false∧(x.ty==14)=false∧(x.ty==15)=false∧(x.ty==16)=false∧(x.ty==17)=false:=by rw[h];decide
theorem Mp{x:En}(h:x.ty=7):(x.ty==1)=false∧(x.ty==2)=false∧(x.ty==3)=false∧(x.ty==4)=false∧(x.ty==5)=false∧(x.ty==6)=false∧(x.ty==7)=true∧(x.ty==8)=false∧(x.ty==9)=false∧(x.ty==10)=false∧(x.ty==11)=false∧(x.ty==12)=false∧(x.ty==13)=false∧(x.ty==14)=false∧(x.ty==15)=false∧(x.ty==16)=false∧(x.ty==17)=false:=by rw[h];decide
theorem Mq{x:En}(h:x.ty=8):(x.ty==1)=false∧(x.ty==2)=false∧(x.ty==3)=false∧(x.ty==4)=false∧(x.ty==5)=false∧(x.ty==6)=false∧(x.ty==7)=false∧(x.ty==8)=true∧(x.ty==9)=false∧(x.ty==10)=false∧(x.ty==11)=false∧(x.ty==12)=false∧(x.ty==13)=false∧(x.ty==14)=false∧(x.ty==15)=false∧(x.ty==16)=false∧(x.ty==17)=false:=by rw[h];decide
theorem Mr{x:En}(h:x.ty=9):(x.ty==1)=false∧(x.ty==2)=false∧(x.ty==3)=false∧(x.ty==4)=false∧(x.ty==5)=false∧(x.ty==6)=false∧(x.ty==7)=false∧(x.ty==8)=false∧(x.ty==9)=true∧(x.ty==10)=false∧(x.ty==11)=false∧(x.ty==12)=false∧(x.ty==13)=false∧(x.ty==14)=false∧(x.ty==15)=false∧(x.ty==16)=false∧(x.ty==17)=false:=by rw[h];decide
theorem Pf{x:En}(h:x.ty=10):(x.ty==1)=false∧(x.ty==2)=false∧(x.ty==3)=false∧(x.ty==4)=false∧(x.ty==5)=false∧(x.ty==6)=false∧(x.ty==7)=false∧(x.ty==8)=false∧(x.ty==9)=false∧(x.ty==10)=true∧(x.ty==11)=false∧(x.ty==12)=false∧(x.ty==13)=false∧(x.ty==14)=false∧(x.ty==15)=false∧(x.ty==16)=false∧(x.ty==17)=false:=by rw[h];decide
theorem Pg{x:En}(h:x.ty=11):(x.ty==1)=false∧(x.ty==2)=false∧(x.ty==3)=false∧(x.ty==4)=false∧(x.ty==5)=false∧(x.ty==6)=false∧(x.ty==7)=false∧(x.ty==8)=false∧(x.ty==9)=false∧(x.ty==10)=false∧(x.ty==11)=true∧(x.ty==12)=false∧(x.ty==13)=false∧(x.ty==14)=false∧(x.ty==15)=false∧(x.ty==16)=false∧(x.ty==17)=false:=by rw[h];decide
theorem Ph{x:En}(h:x.ty=12):(x.ty==1)=false∧(x.ty==2)=false∧(x.ty==3)=false∧(x.ty==4)=false∧(x.ty==5)=false∧(x.ty==6)=false∧(x.ty==7)=false∧(x.ty==8)=false∧(x.ty==9)=false∧(x.ty==10)=false∧(x.ty==11)=false∧(x.ty==12)=true∧(x.ty==13)=false∧(x.ty==14)=false∧(x.ty==15)=false∧(x.ty==16)=false∧(x.ty==17)=false:=by rw[h];decide
theorem Pi{x:En}(h:x.ty=13):(x.ty==1)=false∧(x.ty==2)=false∧(x.ty==3)=false∧(x.ty==4)=false∧(x.ty==5)=false∧(x.ty==6)=false∧(x.ty==7)=false∧(x.ty==8)=false∧(x.ty==9)=false∧(x.ty==10)=false∧(x.ty==11)=false∧(x.ty==12)=false∧(x.ty==13)=true∧(x.ty==14)=false∧(x.ty==15)=false∧(x.ty==16)=false∧(x.ty==17)=false:=by rw[h];decide
theorem Pj{x:En}(h:x.ty=14):(x.ty==1)=false∧(x.ty==2)=false∧(x.ty==3)=false∧(x.ty==4)=false∧(x.ty==5)=false∧(x.ty==6)=false∧(x.ty==7)=false∧(x.ty==8)=false∧(x.ty==9)=false∧(x.ty==10)=false∧(x.ty==11)=false∧(x.ty==12)=false∧(x.ty==13)=false∧(x.ty==14)=true∧(x.ty==15)=false∧(x.ty==16)=false∧(x.ty==17)=false:=by rw[h];decide
theorem Pk{x:En}(h:x.ty=15):(x.ty==1)=false∧(x.ty==2)=false∧(x.ty==3)=false∧(x.ty==4)=false∧(x.ty==5)=false∧(x.ty==6)=false∧(x.ty==7)=false∧(x.ty==8)=false∧(x.ty==9)=false∧(x.ty==10)=false∧(x.ty==11)=false∧(x.ty==12)=false∧(x.ty==13)=false∧(x.ty==14)=false∧(x.ty==15)=true∧(x.ty==16)=false∧(x.ty==17)=false:=by rw[h];decide
theorem Pm{x:En}(h:x.ty=16):(x.ty==1)=false∧(x.ty==2)=false∧(x.ty==3)=false∧(x.ty==4)=false∧(x.ty==5)=false∧(x.ty==6)=false∧(x.ty==7)=false∧(x.ty==8)=false∧(x.ty==9)=false∧(x.ty==10)=false∧(x.ty==11)=false∧(x.ty==12)=false∧(x.ty==13)=false∧(x.ty==14)=false∧(x.ty==15)=false∧(x.ty==16)=true∧(x.ty==17)=false:=by rw[h];decide
theorem Pn{x:En}(h:x.ty=17):(x.ty==1)=false∧(x.ty==2)=false∧(x.ty==3)=false∧(x.ty==4)=false∧(x.ty==5)=false∧(x.ty==6)=false∧(x.ty==7)=false∧(x.ty==8)=false∧(x.ty==9)=false∧(x.ty==10)=false∧(x.ty==11)=false∧(x.ty==12)=false∧(x.ty==13)=false∧(x.ty==14)=false∧(x.ty==15)=false∧(x.ty==16)=false∧(x.ty==17)=true:=by rw[h];decide
open Go.ChangeShapes Go.WideShapes Go.ChangeAt Go.RowKit
structure Tq(x:En):Prop where
 w:vT x
 dst:qK x.dst
 rad:qK x.rad
 tht:qK x.tht
 lo:qK x.lo
 hi:qK x.hi
 spd:qK x.spd
 rnp:qK x.rnp
 mx:qK x.mx
 my:qK x.my
 sec:0≤x.sec∧x.sec≤255
 via:x.via.size≤maxLen
theorem Ms{α:Type}{l:List α}(h:l.length=20):∃c0 c1 c2 c3 c4 c5 c6 c7 c8 c9 c10 c11 c12 c13 c14 c15 c16 c17 c18 c19:α,l=[c0,c1,c2,c3,c4,c5,c6,c7,c8,c9,c10,c11,c12,c13,c14,c15,c16,c17,c18,c19]:=by
 match l,h with
 | [c0,c1,c2,c3,c4,c5,c6,c7,c8,c9,c10,c11,c12,c13,c14,c15,c16,c17,c18,c19],_=>exact⟨c0,c1,c2,c3,c4,c5,c6,c7,c8,c9,c10,c11,c12,c13,c14,c15,c16,c17,c18,c19,rfl⟩
theorem kp(ax ay bx b_y c:Int)(w:World):
 Calls Tryz.prog 50 #[.agg #[Iv ax,Iv ay],.agg #[Iv bx,Iv b_y],Iv c] w fun e w'=>e= .returned (.agg (zf ax ay bx b_y c).cells.toArray)∧Below w.heap.size w w':=by
 by_cases he:ax=bx∧ay=b_y
 ·have HT:Hid (zf ax ay bx b_y c=pK 1 ax ay bx b_y c 0):=hide (by unfold zf;rw[if_pos he]);obtain⟨rfl,rfl⟩:=he;have hM:=qE w;go_enter Tryz.func50,Tryz.ntmps50;go_wp2_with(first|(refine DU ?_;clear hM;intro g W hM))
  all_goals
   refine' ug hM rfl rfl Tryz.isAgg67 Tryz.sizeOf67 rfl ?_ ?_ ⟨?_,hM.below⟩;rotate_left 2
   ·repeat constructor
   ·rfl
   ·rw[HT.out];rfl
 ·have HT:Hid (zf ax ay bx b_y c=pK 1 ax ay bx b_y (qN ax ay bx b_y).1 (qY ax ay bx b_y)):=hide (by unfold zf;rw[if_neg he])
  have hne:(ax==bx&&ay==b_y)=false:=by
   rw[Bool.eq_false_iff];simp;intro h1 h2;exact he ⟨h1,h2⟩
  have hq:((ax==bx)=false)∨((ax==bx)=true∧(ay==b_y)=false):=by
   rcases h:(ax==bx)with _|_
   ·exact .inl rfl
   ·rw[h]at hne;exact .inr ⟨rfl,by simpa using hne⟩
  clear he hne;rcases hq with hx|⟨hx,hy⟩
  all_goals
   have hM:=qE w;go_enter Tryz.func50,Tryz.ntmps50;go_wp2_with(first|(refine DU ?_;clear hM;intro g W hM)|(refine qf (yX _ _ _ _ _) ?_;clear hM;intro W1 hM)|(refine qf (ui _ _ _ _ _) ?_;clear hM;intro W1 hM))
   all_goals
    refine' ug hM rfl rfl Tryz.isAgg67 Tryz.sizeOf67 rfl ?_ ?_ ⟨?_,hM.below⟩;rotate_left 2
    ·repeat constructor
    ·rfl
    ·rw[HT.out];rfl
theorem gu(ax ay c l:Int)(hc:qK c)(hl:qK l)(hl8:l≤8000000)(w:World):
 Calls Tryz.prog 113 #[.agg #[Iv ax,Iv ay],Iv c,Iv l] w fun e w'=>e= .returned (.tuple #[.agg (kf ax ay c l).1.cells.toArray,Iv (kf ax ay c l).2])∧Below w.heap.size w w':=by
 have hM:=qE w;go_enter Tryz.func113,Tryz.ntmps113;go_wp2_with(first|(refine DU ?_;clear hM;intro g W hM)|(go_at_call 130;(with_reducible refine(jv _ _ _ _ ?_ ?_ _ _ rfl).mono ?_);(·first|assumption|(unfold qK;omega));(·first|assumption|(unfold qK;omega));rintro e W1 ⟨rfl,hb⟩;replace hM:=qz hM hb;clear hb))
 all_goals
  refine' qO hM rfl rfl Tryz.isAgg67 Tryz.sizeOf67 rfl rfl ?_ ?_ ⟨?_,hM.below⟩;rotate_left 2
  ·repeat constructor
  ·rfl
  ·unfold kf;first|(rw[if_pos (by simp_all)];rfl)|(rw[if_neg (by simp_all)];rfl)
theorem VN(ax ay c l:Int)(hl:8000000<l)(w:World):
 Calls Tryz.prog 113 #[.agg #[Iv ax,Iv ay],Iv c,Iv l] w fun e w'=>e= .returned (.tuple #[.agg Tk.zero.cells.toArray,Iv 2])∧Below w.heap.size w w':=by
 have hM:=qE w;go_enter Tryz.func113,Tryz.ntmps113;go_wp2_with(first|(refine DU ?_;clear hM;intro g W hM)|(go_at_call 130;(with_reducible refine(jv _ _ _ _ ?_ ?_ _ _ rfl).mono ?_);(·first|assumption|(unfold qK;omega));(·first|assumption|(unfold qK;omega));rintro e W1 ⟨rfl,hb⟩;replace hM:=qz hM hb;clear hb))
 all_goals
  refine' qO hM rfl rfl Tryz.isAgg67 Tryz.sizeOf67 rfl rfl ?_ ?_ ⟨?_,hM.below⟩;rotate_left 2
  ·repeat constructor
  ·rfl
  ·rfl
theorem bC(ax ay bx b_y px py:Int)(w:World):
 Calls Tryz.prog 183 #[.agg #[Iv ax,Iv ay],.agg #[Iv bx,Iv b_y],.agg #[Iv px,Iv py]] w fun e w'=>e= .returned (.bool (Jb ax ay bx b_y px py))∧Below w.heap.size w w':=by
 have hM:=qE w;go_enter Tryz.func183,Tryz.ntmps183;go_wp2_with(first|(refine DU ?_;clear hM;intro g W hM)|(refine qf (ZK _ _ _ _ _ _ _ _ rfl) ?_;clear hM;intro W1 hM))
 all_goals
  go_ret;exact⟨rfl,hM.below⟩
theorem Ja(ax ay bx b_y c:Int)(w:World):
 Calls Tryz.prog 184 #[.agg #[Iv ax,Iv ay],.agg #[Iv bx,Iv b_y],Iv c] w fun e w'=>e= .returned (.tuple #[.agg (BL ax ay c bx b_y).cells.toArray,Iv 0])∧Below w.heap.size w w':=by
 have hM:=qE w;go_enter Tryz.func184,Tryz.ntmps184;go_upto_region 1 with(first|(refine DU ?_;clear hM;intro g W hM));refine' yq hM DN (.tmp 6) rfl ?_ ?_;rotate_left 1;(·repeat constructor);(clear hM;intro W hM hK hne)
 first|refine kL 0 hM hK ?_|refine kM 0 hM hK ?_
 refine qu ?_
 first|refine kL 1 hM hK ?_|refine kM 1 hM hK ?_
 refine qu ?_;refine kP 2 hM hK ?_;refine qu ?_;refine kP 3 hM hK ?_;refine qu ?_
 first|refine kL 4 hM hK ?_|refine kM 4 hM hK ?_
 refine qu ?_
 first|refine kL 5 hM hK ?_|refine kM 5 hM hK ?_
 refine qu ?_;refine zt (i:=6) (zF rfl) DN rfl (fun K' hK'=> ?_);go_wp2_with(first|(refine qf (ui _ _ _ _ _) ?_;clear hM;intro W1 hM));refine hK'.out _ _ (qW hM hK) ?_;clear hK' K';refine qu ?_;refine kP 7 hM hK ?_;refine qu ?_;refine' jd hM (i:=8) (zF rfl) DN rfl rfl rfl ?_ ?_ ?_ ?_ ?_ ?_ ?_ hK hne ?_;rotate_left 6;(·constructor);(·repeat constructor);(·repeat constructor);(·repeat constructor);(·exact uT rfl);(·rfl);(·exact zO rfl);(clear hM hK;intro W hM hK);refine qu ?_;refine kP 9 hM hK ?_;refine qu ?_;refine qF DN ?_;go_wp2_with(first|(refine DU ?_;clear hM;intro g W hM));refine' qO hM rfl rfl Tryz.isAgg67 Tryz.sizeOf67 rfl rfl ?_ ?_ ⟨?_,hM.below⟩;rotate_left 2
 ·repeat constructor
 ·rfl
 ·rfl
theorem VO(alt lo gr:Int)(h1: -200000≤alt)(h1b:alt≤6000000)(h2: -200000≤lo)(h2b:lo≤6000000)(hg:1≤gr)(hgb:gr≤100000)(w:World):
 Calls Tryz.prog 114 #[Iv alt,Iv lo,Iv gr] w fun e w'=>e= .returned (Iv (kF alt lo gr))∧Below w.heap.size w w':=by
 by_cases hlt:alt<lo
 ·have HN:Hid (kF alt lo gr=vW 1 ((lo-alt)*6000) gr):=hide (if_pos hlt);have MU:=fun W=>bc (lo-alt) 6000 gr DP DP DP W
  rw[Wy hlt h1 h2b hg]at MU;obtain⟨N,hN⟩:∃N,kF alt lo gr=N:=⟨_,rfl⟩;rw[hN]at MU;have HN:=hide hN;clear hN;have hM:=qE w;go_enter Tryz.func114,Tryz.ntmps114;go_wp2_with(first|(refine DU ?_;clear hM;intro g W hM)|(go_at_call 53;(with_reducible refine(MU _).mono ?_);rintro e W1 ⟨rfl,n,rfl⟩;replace hM:=yp hM n))
  all_goals
   go_ret;exact⟨qI HN.out.symm,hM.below⟩
 ·have HN:Hid (kF alt lo gr=0):=hide (if_neg hlt);have hM:=qE w;go_enter Tryz.func114,Tryz.ntmps114;go_wp2_with(first|(refine DU ?_;clear hM;intro g W hM))
  all_goals
   go_ret;exact⟨qI HN.out.symm,hM.below⟩
set_option maxRecDepth 100000 in
set_option maxHeartbeats 8000000 in
theorem jC(spd bank oalt gr:Int)(w:World):
 Calls Tryz.prog 48 #[.agg #[Iv spd,Iv bank,Iv oalt,Iv gr]] w fun e w'=>e= .returned (Iv (jY spd bank oalt gr))∧Below w.heap.size w w':=by
 have hM:=qE w;go_enter Tryz.func48,Tryz.ntmps48;go_wp2_with(first|(refine DU ?_;clear hM;intro g W hM))
 all_goals
  go_ret;exact⟨qI (by unfold jY;first|rw[if_pos DL]|rw[if_neg DL]),hM.below⟩
end Go.Proofs.YtcgpbnlhnafhjaaGreatDoor
