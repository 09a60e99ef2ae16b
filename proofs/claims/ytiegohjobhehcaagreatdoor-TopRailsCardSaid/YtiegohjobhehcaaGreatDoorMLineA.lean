/-
  The walks of Side and Ahead, of the program and of the reference.
-/
import Derived.Test.YtiegohjobhehcaaGreatDoorMRoot
import Derived.Test.YtiegohjobhehcaaGreatDoorMGeo
set_option maxRecDepth 100000
set_option maxHeartbeats 16000000
namespace Go.Proofs.YtiegohjobhehcaaGreatDoor
open Go.RowKit
set_option linter.unusedVariables false
set_option linter.unusedSimpArgs false
theorem gH(ax ay bx b_y px py:Int)(w:World):
 Calls Tryz.prog 156 #[.agg #[Iv ax,Iv ay],.agg #[Iv bx,Iv b_y],.agg #[Iv px,Iv py]] w fun e w'=>e= .returned (Iv (Bj ax ay bx b_y px py))∧Below w.heap.size w w':=by
 unfold Bj;rcases hv:(qw ax ay&&qw bx b_y&&qw px py)with _|_
 all_goals
  have HV:=hide hv;clear hv
 ·rw[if_neg jL];go_enter Tryz.func156,Tryz.ntmps156;go_wp2_with fail;refine(kC ax ay bx b_y px py _ _ _ (uo _ _ _ jL)).mono ?_;rintro e w1 ⟨rfl,hb⟩;rw[HV.out];go_wp2_with fail;go_ret;exact⟨rfl,by(repeat(with_reducible (first|assumption|exact Below.refl _ _|refine Below.drew ?_|refine below_drewN ?_ _|refine qu ?_ (Nat.le_refl _) _|refine qH qY ?_)))⟩
 ·rw[if_pos rfl];have hv':(qw ax ay=true∧qw bx b_y=true)∧qw px py=true:=by simpa using HV.out
  have b1:=jX hv'.1.1;have b2:=jX hv'.1.2;have b3:=jX hv'.2;clear hv';go_enter Tryz.func156,Tryz.ntmps156;go_wp2_with fail;refine(kC ax ay bx b_y px py _ _ _ (uo _ _ _ jL)).mono ?_;rintro e w1 ⟨rfl,hb⟩;rw[HV.out];have k0_0:=qi hb (b:=w.heap.size) (o:=0) (v:=Iv ax) yt;have k0_1:=qi hb (b:=w.heap.size) (o:=1) (v:=Iv ay) yt;have k1_0:=qi hb (b:=w.heap.size+1) (o:=0) (v:=Iv bx) yt;have k1_1:=qi hb (b:=w.heap.size+1) (o:=1) (v:=Iv b_y) yt;have k2_0:=qi hb (b:=w.heap.size+1+1) (o:=0) (v:=Iv px) yt;have k2_1:=qi hb (b:=w.heap.size+1+1) (o:=1) (v:=Iv py) yt;go_wp2_with fail
  go_region_held3 (fun w'=>w'.cell? ⟨w.heap.size,0,none⟩=some (Iv ax)∧w'.cell? ⟨w.heap.size,1,none⟩=some (Iv ay)∧w'.cell? ⟨w.heap.size+1,0,none⟩=some (Iv bx)∧w'.cell? ⟨w.heap.size+1,1,none⟩=some (Iv b_y)∧w'.cell? ⟨w.heap.size+1+1,0,none⟩=some (Iv px)∧w'.cell? ⟨w.heap.size+1+1,1,none⟩=some (Iv py)) ((go_split_ands;refine⟨?_,?_,?_,?_,?_,?_⟩<;>(repeat(first|(with_reducible assumption)|(with_reducible refine qX ?_)|(with_reducible refine qV ?_ _)|(with_reducible refine qi qY ?_)|((with_reducible refine zf ?_ ?_);(·(simp;done));(·rfl))|(with_reducible refine qR ?_ _)))))
  (first|(go_at_call 27;(with_reducible refine(xm _ _ _ _ qg qg qg qg _).mono ?_);rintro e w' ⟨rfl,hb'⟩)|(go_at_call 91;(with_reducible refine(Gf _ _ _ _ qg qg qg qg qg qg qg qg _).mono ?_);rintro e w' ⟨rfl,hb'⟩)|refine qN (Ge _ _ _) ?_)
  go_wp2_with fail;go_ret;exact⟨rfl,by(repeat(with_reducible (first|assumption|exact Below.refl _ _|refine Below.drew ?_|refine below_drewN ?_ _|refine qu ?_ (Nat.le_refl _) _|refine qH qY ?_)))⟩
theorem uH(x y:Int)(v:Bool)(h:qw x y=v)(w:World):Calls Tryz.prog 31 #[.agg #[Iv x,Iv y]] w fun e w'=>e= .returned (.bool v)∧w'=w.alloc (.cells #[Iv x,Iv y] 26):=by
 rw[←h];exact xW x y w
theorem iQ{ax ay bx b_y:Int}(h1:qw ax ay=true)(h2:qw bx b_y=true):qz (yH ax ay bx b_y):=by
 have a:=Bn ax ay bx b_y;have b:=Kd h1 h2;unfold qz;omega
theorem yF(ax ay bx b_y:Int)(w:World):
 Calls Tryz.prog 10 #[.agg #[Iv ax,Iv ay],.agg #[Iv bx,Iv b_y]] w fun e w'=>e= .returned (.tuple #[Iv (qO ax ay bx b_y).1,Iv (qO ax ay bx b_y).2])∧Below w.heap.size w w':=by
 rcases hv:(qw ax ay&&qw bx b_y)with _|_
 ·have HR:Hid (qO ax ay bx b_y=(0,1)):=hide (by unfold qO;rw[hv];rfl);have HV:Hid ((qw ax ay&&qw bx b_y)=false):=hide (by first|exact hv|(rw[hv];rfl));clear hv;generalize qO ax ay bx b_y=R at*;obtain rfl:R=(0,1):=HR.out;go_enter Tryz.func10,Tryz.ntmps10;go_wp2_with fail;refine(gQ ax ay bx b_y _ _ _ (uo _ _ _ jL)).mono ?_;rintro e w1 ⟨rfl,hb⟩;rw[HV.out];go_wp2_with fail;go_ret2;exact⟨rfl,by(repeat(with_reducible (first|assumption|exact Below.refl _ _|refine Below.drew ?_|refine below_drewN ?_ _|refine qu ?_ (Nat.le_refl _) _|refine qH qY ?_)))⟩
 have hv':qw ax ay=true∧qw bx b_y=true:=by simpa using hv
 have b1:=jX hv'.1;have b2:=jX hv'.2;have HV:Hid ((qw ax ay&&qw bx b_y)=true):=hide (by rw[hv'.1,hv'.2];rfl);by_cases he:ax=bx∧ay=b_y
 ·have HR:Hid (qO ax ay bx b_y=(0,10)):=hide (by unfold qO;rw[hv,if_neg jL,if_pos he]);clear hv hv';obtain⟨rfl,rfl⟩:=he;generalize qO ax ay ax ay=R at*;obtain rfl:R=(0,10):=HR.out;go_enter Tryz.func10,Tryz.ntmps10;go_wp2_with fail;refine(gQ ax ay ax ay _ _ _ (uo _ _ _ jL)).mono ?_;rintro e w1 ⟨rfl,hb⟩;rw[HV.out];have k0_0:=qi hb (b:=w.heap.size) (o:=0) (v:=Iv ax) yt;have k0_1:=qi hb (b:=w.heap.size) (o:=1) (v:=Iv ay) yt;have k1_0:=qi hb (b:=w.heap.size+1) (o:=0) (v:=Iv ax) yt;have k1_1:=qi hb (b:=w.heap.size+1) (o:=1) (v:=Iv ay) yt;go_wp2_with fail;go_ret2;exact⟨rfl,by(repeat(with_reducible (first|assumption|exact Below.refl _ _|refine Below.drew ?_|refine below_drewN ?_ _|refine qu ?_ (Nat.le_refl _) _|refine qH qY ?_)))⟩
 have HR:Hid (qO ax ay bx b_y=(yQ (bx-ax) (b_y-ay),0)):=hide (by unfold qO;rw[hv,if_neg jL,if_neg he]);have HNE:Hid (¬(b_y-ay=0∧bx-ax=0)):=hide qg
 have T:((ax==bx)=true∧(ay==b_y)=false)∨(ax==bx)=false:=by
  by_cases hx0:ax=bx
  ·left;simp[hx0];intro hy0;exact he ⟨hx0,hy0⟩
  ·right;simp[hx0]
 clear hv hv' he;generalize qO ax ay bx b_y=R at*;obtain rfl:R=(yQ (bx-ax) (b_y-ay),0):=HR.out;rcases T with⟨t1,t2⟩|t1
 all_goals
  go_enter Tryz.func10,Tryz.ntmps10;go_wp2_with fail;refine(gQ ax ay bx b_y _ _ _ (uo _ _ _ jL)).mono ?_;rintro e w1 ⟨rfl,hb⟩;rw[HV.out];have k0_0:=qi hb (b:=w.heap.size) (o:=0) (v:=Iv ax) yt;have k0_1:=qi hb (b:=w.heap.size) (o:=1) (v:=Iv ay) yt;have k1_0:=qi hb (b:=w.heap.size+1) (o:=0) (v:=Iv bx) yt;have k1_1:=qi hb (b:=w.heap.size+1) (o:=1) (v:=Iv b_y) yt;go_wp2_with(first|(go_at_call 28;(with_reducible refine(Yz _ _ qg qg qg qg HNE.out _).mono ?_);rintro e w' ⟨rfl,hb'⟩)|(go_at_call 27;(with_reducible refine(xm _ _ _ _ qg qg qg qg _).mono ?_);rintro e w' ⟨rfl,hb'⟩));go_ret2;exact⟨rfl,by(repeat(with_reducible (first|assumption|exact Below.refl _ _|refine Below.drew ?_|refine below_drewN ?_ _|refine qu ?_ (Nat.le_refl _) _|refine qH qY ?_)))⟩
theorem yG(ax ay bx b_y:Int)(w:World):
 Calls Tryz.prog 40 #[.agg #[Iv ax,Iv ay],.agg #[Iv bx,Iv b_y]] w fun e w'=>e= .returned (Iv (zk ax ay bx b_y))∧Below w.heap.size w w':=by
 rcases hv:(qw ax ay&&qw bx b_y)with _|_
 ·have HR:Hid (zk ax ay bx b_y=0):=hide (by unfold zk;rw[hv];rfl);have HV:Hid ((qw ax ay&&qw bx b_y)=false):=hide (by first|exact hv|(rw[hv];rfl));clear hv;generalize zk ax ay bx b_y=R at*;obtain rfl:R=0:=HR.out;go_enter Tryz.func40,Tryz.ntmps40;go_wp2_with fail;refine(gQ ax ay bx b_y _ _ _ (uo _ _ _ jL)).mono ?_;rintro e w1 ⟨rfl,hb⟩;rw[HV.out];go_wp2_with fail;go_ret;exact⟨rfl,by(repeat(with_reducible (first|assumption|exact Below.refl _ _|refine Below.drew ?_|refine below_drewN ?_ _|refine qu ?_ (Nat.le_refl _) _|refine qH qY ?_)))⟩
 ·have hv':qw ax ay=true∧qw bx b_y=true:=by simpa using hv
  have b1:=jX hv'.1;have b2:=jX hv'.2;have HV:Hid ((qw ax ay&&qw bx b_y)=true):=hide (by rw[hv'.1,hv'.2];rfl);have HI:Hid (qz ((bx-ax)*(bx-ax)+(b_y-ay)*(b_y-ay))):=hide (iQ hv'.1 hv'.2);have HR:Hid (zk ax ay bx b_y=kE ((bx-ax)*(bx-ax)+(b_y-ay)*(b_y-ay)).toNat):=hide (by unfold zk yH;rw[hv];rfl);clear hv hv';generalize zk ax ay bx b_y=R at*;obtain rfl:R=_:=HR.out;go_enter Tryz.func40,Tryz.ntmps40;go_wp2_with fail;refine(gQ ax ay bx b_y _ _ _ (uo _ _ _ jL)).mono ?_;rintro e w1 ⟨rfl,hb⟩;rw[HV.out];have k0_0:=qi hb (b:=w.heap.size) (o:=0) (v:=Iv ax) yt;have k0_1:=qi hb (b:=w.heap.size) (o:=1) (v:=Iv ay) yt;have k1_0:=qi hb (b:=w.heap.size+1) (o:=0) (v:=Iv bx) yt;have k1_1:=qi hb (b:=w.heap.size+1) (o:=1) (v:=Iv b_y) yt;go_wp2_with(first|(go_at_call 90;(with_reducible refine(JT _ HI.out _).mono ?_);rintro e w' ⟨rfl,n,rfl⟩)|(go_at_call 27;(with_reducible refine(xm _ _ _ _ qg qg qg qg _).mono ?_);rintro e w' ⟨rfl,hb'⟩)|(go_at_call 91;(with_reducible refine(Gf _ _ _ _ qg qg qg qg qg qg qg qg _).mono ?_);rintro e w' ⟨rfl,hb'⟩));go_ret;exact⟨rfl,by(repeat(with_reducible (first|assumption|exact Below.refl _ _|refine Below.drew ?_|refine below_drewN ?_ _|refine qu ?_ (Nat.le_refl _) _|refine qH qY ?_)))⟩
end Go.Proofs.YtiegohjobhehcaaGreatDoor
