/-
  The walks of Side and Ahead, of the program and of the reference.
-/
import Derived.Test.YtcgpbnlhnafhjaaGreatDoorMGeo
import Derived.Test.YtcgpbnlhnafhjaaGreatDoorMRefAtan
set_option maxRecDepth 100000
set_option maxHeartbeats 16000000
namespace Go.Proofs.YtcgpbnlhnafhjaaGreatDoor
open Go.RowKit
set_option linter.unusedVariables false
set_option linter.unusedSimpArgs false
theorem bQ(ax ay bx b_y px py:Int)(w:World):
 Calls Tryz.prog 153 #[.agg #[Iv ax,Iv ay],.agg #[Iv bx,Iv b_y],.agg #[Iv px,Iv py]] w fun e w'=>e= .returned (Iv (Zq ax ay bx b_y px py))∧Below w.heap.size w w':=by
 unfold Zq;rcases hv:(qw ax ay&&qw bx b_y&&qw px py)with _|_
 all_goals
  have HV:=hide hv;clear hv
 ·rw[if_neg DS];go_enter Tryz.func153,Tryz.ntmps153;go_wp2_with fail;refine(kD ax ay bx b_y px py _ _ _ (uf _ _ _ DS)).mono ?_;rintro e w1 ⟨rfl,hb⟩;rw[HV.out];go_wp2_with fail;go_ret;exact⟨rfl,by(repeat(with_reducible (first|assumption|exact Below.refl _ _|refine Below.drew ?_|refine below_drewN ?_ _|refine qj ?_ (Nat.le_refl _) _|refine qA DM ?_)))⟩
 ·rw[if_pos rfl];have hv':(qw ax ay=true∧qw bx b_y=true)∧qw px py=true:=by simpa using HV.out
  have b1:=zu hv'.1.1;have b2:=zu hv'.1.2;have b3:=zu hv'.2;clear hv';go_enter Tryz.func153,Tryz.ntmps153;go_wp2_with fail;refine(kD ax ay bx b_y px py _ _ _ (uf _ _ _ DS)).mono ?_;rintro e w1 ⟨rfl,hb⟩;rw[HV.out];have k0_0:=qe hb (b:=w.heap.size) (o:=0) (v:=Iv ax) DR;have k0_1:=qe hb (b:=w.heap.size) (o:=1) (v:=Iv ay) DR;have k1_0:=qe hb (b:=w.heap.size+1) (o:=0) (v:=Iv bx) DR;have k1_1:=qe hb (b:=w.heap.size+1) (o:=1) (v:=Iv b_y) DR;have k2_0:=qe hb (b:=w.heap.size+1+1) (o:=0) (v:=Iv px) DR;have k2_1:=qe hb (b:=w.heap.size+1+1) (o:=1) (v:=Iv py) DR;go_wp2_with fail
  go_region_held3 (fun w'=>w'.cell? ⟨w.heap.size,0,none⟩=some (Iv ax)∧w'.cell? ⟨w.heap.size,1,none⟩=some (Iv ay)∧w'.cell? ⟨w.heap.size+1,0,none⟩=some (Iv bx)∧w'.cell? ⟨w.heap.size+1,1,none⟩=some (Iv b_y)∧w'.cell? ⟨w.heap.size+1+1,0,none⟩=some (Iv px)∧w'.cell? ⟨w.heap.size+1+1,1,none⟩=some (Iv py)) ((go_split_ands;refine⟨?_,?_,?_,?_,?_,?_⟩<;>(repeat(first|(with_reducible assumption)|(with_reducible refine qH ?_)|(with_reducible refine qC ?_ _)|(with_reducible refine qe DM ?_)|((with_reducible refine qJ ?_ ?_);(·(simp;done));(·rfl))|(with_reducible refine qB ?_ _)))))
  (first|(go_at_call 74;(with_reducible refine(bW _ _ _ _ DL DL DL DL _).mono ?_);rintro e w' ⟨rfl,hb'⟩)|(go_at_call 92;(with_reducible refine(KN _ _ _ _ DL DL DL DL DL DL DL DL _).mono ?_);rintro e w' ⟨rfl,hb'⟩)|refine DG (Gj _ _ _) ?_)
  go_wp2_with fail;go_ret;exact⟨rfl,by(repeat(with_reducible (first|assumption|exact Below.refl _ _|refine Below.drew ?_|refine below_drewN ?_ _|refine qj ?_ (Nat.le_refl _) _|refine qA DM ?_)))⟩
theorem lN(a b:Int): -1≤uF a b∧uF a b≤1:=by unfold uF;omega
theorem yo(x y:Int)(v:Bool)(h:qw x y=v)(w:World):Calls Tryz.prog 49 #[.agg #[Iv x,Iv y]] w fun e w'=>e= .returned (.bool v)∧w'=w.alloc (.cells #[Iv x,Iv y] 26):=by
 rw[←h];exact Yf x y w
theorem ux(x y:Int)(v:Bool)(h:qw x y=v)(w:World):Calls Tryz.prog 30 #[.agg #[Iv x,Iv y]] w fun e w'=>e= .returned (.bool v)∧w'=w.alloc (.cells #[Iv x,Iv y] 26):=by
 rw[←h];exact xo x y w
theorem zW(ax ay bx b_y px py:Int)(w:World):
 Calls Tryz.prog 171 #[.agg #[Iv ax,Iv ay],.agg #[Iv bx,Iv b_y],.agg #[Iv px,Iv py]] w fun e w'=>e= .returned (.bool (qw ax ay&&qw bx b_y&&qw px py))∧Below w.heap.size w w':=by
 rcases h1:qw ax ay with _|_
 ·have H1:=hide h1;clear h1;go_enter Tryz.func171,Tryz.ntmps171;go_wp2_with fail;refine(yo _ _ false H1.out _).mono ?_;rintro e w1 ⟨rfl,rfl⟩;go_wp2_with fail;go_ret;exact⟨jF DS,by(repeat(with_reducible (first|assumption|exact Below.refl _ _|refine Below.drew ?_|refine below_drewN ?_ _|refine qj ?_ (Nat.le_refl _) _|refine qA DM ?_)))⟩
 rcases h2:qw bx b_y with _|_
 ·have H1:=hide h1;have H2:=hide h2;clear h1 h2;go_enter Tryz.func171,Tryz.ntmps171;go_wp2_with fail;refine(yo _ _ true H1.out _).mono ?_;rintro e w1 ⟨rfl,rfl⟩;go_wp2_with fail;refine(yo _ _ false H2.out _).mono ?_;rintro e w1 ⟨rfl,rfl⟩;go_wp2_with fail;go_ret;exact⟨jF DS,by(repeat(with_reducible (first|assumption|exact Below.refl _ _|refine Below.drew ?_|refine below_drewN ?_ _|refine qj ?_ (Nat.le_refl _) _|refine qA DM ?_)))⟩
 rcases h3:qw px py with _|_
 all_goals
  have H1:=hide h1;have H2:=hide h2;have H3:=hide h3;clear h1 h2 h3;go_enter Tryz.func171,Tryz.ntmps171;go_wp2_with fail;refine(yo _ _ true H1.out _).mono ?_;rintro e w1 ⟨rfl,rfl⟩;go_wp2_with fail;refine(yo _ _ true H2.out _).mono ?_;rintro e w1 ⟨rfl,rfl⟩;go_wp2_with fail;refine(yo _ _ _ H3.out _).mono ?_;rintro e w1 ⟨rfl,rfl⟩;go_wp2_with fail;go_ret;exact⟨jF DS,by(repeat(with_reducible (first|assumption|exact Below.refl _ _|refine Below.drew ?_|refine below_drewN ?_ _|refine qj ?_ (Nat.le_refl _) _|refine qA DM ?_)))⟩
theorem uR(ax ay bx b_y px py:Int)(w:World):
 Calls Tryz.prog 179 #[.agg #[Iv ax,Iv ay],.agg #[Iv bx,Iv b_y],.agg #[Iv px,Iv py]] w fun e w'=>e= .returned (Iv (Zq ax ay bx b_y px py))∧Below w.heap.size w w':=by
 unfold Zq;rcases hv:(qw ax ay&&qw bx b_y&&qw px py)with _|_
 all_goals
  have HV:=hide hv;clear hv
 ·rw[if_neg DS];go_enter Tryz.func179,Tryz.ntmps179;go_wp2_with fail;refine(zW ax ay bx b_y px py _).mono ?_;rintro e w1 ⟨rfl,hb⟩;rw[HV.out];go_wp2_with fail;go_ret;exact⟨rfl,by(repeat(with_reducible (first|assumption|exact Below.refl _ _|refine Below.drew ?_|refine below_drewN ?_ _|refine qj ?_ (Nat.le_refl _) _|refine qA DM ?_)))⟩
 ·rw[if_pos rfl];have hv':(qw ax ay=true∧qw bx b_y=true)∧qw px py=true:=by simpa using HV.out
  have b1:=zu hv'.1.1;have b2:=zu hv'.1.2;have b3:=zu hv'.2;clear hv';go_enter Tryz.func179,Tryz.ntmps179;go_wp2_with fail;refine(zW ax ay bx b_y px py _).mono ?_;rintro e w1 ⟨rfl,hb⟩;rw[HV.out];have k0_0:=qe hb (b:=w.heap.size) (o:=0) (v:=Iv ax) DR;have k0_1:=qe hb (b:=w.heap.size) (o:=1) (v:=Iv ay) DR;have k1_0:=qe hb (b:=w.heap.size+1) (o:=0) (v:=Iv bx) DR;have k1_1:=qe hb (b:=w.heap.size+1) (o:=1) (v:=Iv b_y) DR;have k2_0:=qe hb (b:=w.heap.size+1+1) (o:=0) (v:=Iv px) DR;have k2_1:=qe hb (b:=w.heap.size+1+1) (o:=1) (v:=Iv py) DR;have cb:=lN ((bx-ax)*(py-ay)-(b_y-ay)*(px-ax)) 0;go_wp2_with(first|(go_at_call 174;(with_reducible refine(JB _ _ _ _ _ _ _ _ DL DL DL DL DL DL DL DL _).mono ?_);rintro e w' ⟨rfl,hb'⟩)|refine DG (cj _ _) ?_);go_ret;exact⟨qI (by rfl),by(repeat(with_reducible (first|assumption|exact Below.refl _ _|refine Below.drew ?_|refine below_drewN ?_ _|refine qj ?_ (Nat.le_refl _) _|refine qA DM ?_)))⟩
theorem Gv{ax ay bx b_y:Int}(h1:qw ax ay=true)(h2:qw bx b_y=true):qK (zV ax ay bx b_y):=by
 have a:=Bu ax ay bx b_y;have b:=ZW h1 h2;unfold qK;omega
theorem vk(ax ay bx b_y:Int)(w:World):
 Calls Tryz.prog 27 #[.agg #[Iv ax,Iv ay],.agg #[Iv bx,Iv b_y]] w fun e w'=>e= .returned (.tuple #[Iv (qN ax ay bx b_y).1,Iv (qN ax ay bx b_y).2])∧Below w.heap.size w w':=by
 rcases hv:(qw ax ay&&qw bx b_y)with _|_
 ·have HR:Hid (qN ax ay bx b_y=(0,1)):=hide (by unfold qN;rw[hv];rfl);have HV:Hid ((qw ax ay&&qw bx b_y)=false):=hide (by first|exact hv|(rw[hv];rfl));clear hv;generalize qN ax ay bx b_y=R at*;obtain rfl:R=(0,1):=HR.out;go_enter Tryz.func27,Tryz.ntmps27;go_wp2_with fail;refine(bY ax ay bx b_y _ _ _ (uf _ _ _ DS)).mono ?_;rintro e w1 ⟨rfl,hb⟩;rw[HV.out];go_wp2_with fail;go_ret2;exact⟨rfl,by(repeat(with_reducible (first|assumption|exact Below.refl _ _|refine Below.drew ?_|refine below_drewN ?_ _|refine qj ?_ (Nat.le_refl _) _|refine qA DM ?_)))⟩
 have hv':qw ax ay=true∧qw bx b_y=true:=by simpa using hv
 have b1:=zu hv'.1;have b2:=zu hv'.2;have HV:Hid ((qw ax ay&&qw bx b_y)=true):=hide (by rw[hv'.1,hv'.2];rfl);by_cases he:ax=bx∧ay=b_y
 ·have HR:Hid (qN ax ay bx b_y=(0,10)):=hide (by unfold qN;rw[hv,if_neg DS,if_pos he]);clear hv hv';obtain⟨rfl,rfl⟩:=he;generalize qN ax ay ax ay=R at*;obtain rfl:R=(0,10):=HR.out;go_enter Tryz.func27,Tryz.ntmps27;go_wp2_with fail;refine(bY ax ay ax ay _ _ _ (uf _ _ _ DS)).mono ?_;rintro e w1 ⟨rfl,hb⟩;rw[HV.out];have k0_0:=qe hb (b:=w.heap.size) (o:=0) (v:=Iv ax) DR;have k0_1:=qe hb (b:=w.heap.size) (o:=1) (v:=Iv ay) DR;have k1_0:=qe hb (b:=w.heap.size+1) (o:=0) (v:=Iv ax) DR;have k1_1:=qe hb (b:=w.heap.size+1) (o:=1) (v:=Iv ay) DR;go_wp2_with fail;go_ret2;exact⟨rfl,by(repeat(with_reducible (first|assumption|exact Below.refl _ _|refine Below.drew ?_|refine below_drewN ?_ _|refine qj ?_ (Nat.le_refl _) _|refine qA DM ?_)))⟩
 have HR:Hid (qN ax ay bx b_y=(jJ (bx-ax) (b_y-ay),0)):=hide (by unfold qN;rw[hv,if_neg DS,if_neg he]);have HNE:Hid (¬(b_y-ay=0∧bx-ax=0)):=hide DL
 have T:((ax==bx)=true∧(ay==b_y)=false)∨(ax==bx)=false:=by
  by_cases hx0:ax=bx
  ·left;simp[hx0];intro hy0;exact he ⟨hx0,hy0⟩
  ·right;simp[hx0]
 clear hv hv' he;generalize qN ax ay bx b_y=R at*;obtain rfl:R=(jJ (bx-ax) (b_y-ay),0):=HR.out;rcases T with⟨t1,t2⟩|t1
 all_goals
  go_enter Tryz.func27,Tryz.ntmps27;go_wp2_with fail;refine(bY ax ay bx b_y _ _ _ (uf _ _ _ DS)).mono ?_;rintro e w1 ⟨rfl,hb⟩;rw[HV.out];have k0_0:=qe hb (b:=w.heap.size) (o:=0) (v:=Iv ax) DR;have k0_1:=qe hb (b:=w.heap.size) (o:=1) (v:=Iv ay) DR;have k1_0:=qe hb (b:=w.heap.size+1) (o:=0) (v:=Iv bx) DR;have k1_1:=qe hb (b:=w.heap.size+1) (o:=1) (v:=Iv b_y) DR;go_wp2_with(first|(go_at_call 75;(with_reducible refine(Uy _ _ DL DL DL DL HNE.out _).mono ?_);rintro e w' ⟨rfl,hb'⟩)|(go_at_call 74;(with_reducible refine(bW _ _ _ _ DL DL DL DL _).mono ?_);rintro e w' ⟨rfl,hb'⟩));go_ret2;exact⟨rfl,by(repeat(with_reducible (first|assumption|exact Below.refl _ _|refine Below.drew ?_|refine below_drewN ?_ _|refine qj ?_ (Nat.le_refl _) _|refine qA DM ?_)))⟩
theorem yX(ax ay bx b_y:Int)(w:World):
 Calls Tryz.prog 108 #[.agg #[Iv ax,Iv ay],.agg #[Iv bx,Iv b_y]] w fun e w'=>e= .returned (.tuple #[Iv (qN ax ay bx b_y).1,Iv (qN ax ay bx b_y).2])∧Below w.heap.size w w':=by
 rcases hv:(qw ax ay&&qw bx b_y)with _|_
 ·have HR:Hid (qN ax ay bx b_y=(0,1)):=hide (by unfold qN;rw[hv];rfl);have HV:Hid ((qw ax ay&&qw bx b_y&&qw bx b_y)=false):=hide (by first|exact hv|(rw[hv];rfl));clear hv;generalize qN ax ay bx b_y=R at*;obtain rfl:R=(0,1):=HR.out;go_enter Tryz.func108,Tryz.ntmps108;go_wp2_with fail;refine(zW ax ay bx b_y bx b_y _).mono ?_;rintro e w1 ⟨rfl,hb⟩;rw[HV.out];go_wp2_with fail;go_ret2;exact⟨rfl,by(repeat(with_reducible (first|assumption|exact Below.refl _ _|refine Below.drew ?_|refine below_drewN ?_ _|refine qj ?_ (Nat.le_refl _) _|refine qA DM ?_)))⟩
 have hv':qw ax ay=true∧qw bx b_y=true:=by simpa using hv
 have b1:=zu hv'.1;have b2:=zu hv'.2;have HV:Hid ((qw ax ay&&qw bx b_y&&qw bx b_y)=true):=hide (by rw[hv'.1,hv'.2];rfl);by_cases he:ax=bx∧ay=b_y
 ·have HR:Hid (qN ax ay bx b_y=(0,10)):=hide (by unfold qN;rw[hv,if_neg DS,if_pos he]);clear hv hv';obtain⟨rfl,rfl⟩:=he;generalize qN ax ay ax ay=R at*;obtain rfl:R=(0,10):=HR.out;go_enter Tryz.func108,Tryz.ntmps108;go_wp2_with fail;refine(zW ax ay ax ay ax ay _).mono ?_;rintro e w1 ⟨rfl,hb⟩;rw[HV.out];have k0_0:=qe hb (b:=w.heap.size) (o:=0) (v:=Iv ax) DR;have k0_1:=qe hb (b:=w.heap.size) (o:=1) (v:=Iv ay) DR;have k1_0:=qe hb (b:=w.heap.size+1) (o:=0) (v:=Iv ax) DR;have k1_1:=qe hb (b:=w.heap.size+1) (o:=1) (v:=Iv ay) DR;go_wp2_with fail;go_ret2;exact⟨rfl,by(repeat(with_reducible (first|assumption|exact Below.refl _ _|refine Below.drew ?_|refine below_drewN ?_ _|refine qj ?_ (Nat.le_refl _) _|refine qA DM ?_)))⟩
 have HR:Hid (qN ax ay bx b_y=(jJ (bx-ax) (b_y-ay),0)):=hide (by unfold qN;rw[hv,if_neg DS,if_neg he]);have HNE:Hid (¬(b_y-ay=0∧bx-ax=0)):=hide DL
 have T:((ax==bx)=true∧(ay==b_y)=false)∨(ax==bx)=false:=by
  by_cases hx0:ax=bx
  ·left;simp[hx0];intro hy0;exact he ⟨hx0,hy0⟩
  ·right;simp[hx0]
 clear hv hv' he;generalize qN ax ay bx b_y=R at*;obtain rfl:R=(jJ (bx-ax) (b_y-ay),0):=HR.out;rcases T with⟨t1,t2⟩|t1
 all_goals
  go_enter Tryz.func108,Tryz.ntmps108;go_wp2_with fail;refine(zW ax ay bx b_y bx b_y _).mono ?_;rintro e w1 ⟨rfl,hb⟩;rw[HV.out];have k0_0:=qe hb (b:=w.heap.size) (o:=0) (v:=Iv ax) DR;have k0_1:=qe hb (b:=w.heap.size) (o:=1) (v:=Iv ay) DR;have k1_0:=qe hb (b:=w.heap.size+1) (o:=0) (v:=Iv bx) DR;have k1_1:=qe hb (b:=w.heap.size+1) (o:=1) (v:=Iv b_y) DR;go_wp2_with(first|(go_at_call 172;(with_reducible refine(VM _ _ DL DL DL DL HNE.out _).mono ?_);rintro e w' ⟨rfl,rfl⟩)|(go_at_call 74;(with_reducible refine(bW _ _ _ _ DL DL DL DL _).mono ?_);rintro e w' ⟨rfl,hb'⟩));go_ret2;exact⟨rfl,by(repeat(with_reducible (first|assumption|exact Below.refl _ _|refine Below.drew ?_|refine below_drewN ?_ _|refine qj ?_ (Nat.le_refl _) _|refine qA DM ?_)))⟩
theorem yE(ax ay bx b_y:Int)(w:World):
 Calls Tryz.prog 39 #[.agg #[Iv ax,Iv ay],.agg #[Iv bx,Iv b_y]] w fun e w'=>e= .returned (Iv (qY ax ay bx b_y))∧Below w.heap.size w w':=by
 rcases hv:(qw ax ay&&qw bx b_y)with _|_
 ·have HR:Hid (qY ax ay bx b_y=0):=hide (by unfold qY;rw[hv];rfl);have HV:Hid ((qw ax ay&&qw bx b_y)=false):=hide (by first|exact hv|(rw[hv];rfl));clear hv;generalize qY ax ay bx b_y=R at*;obtain rfl:R=0:=HR.out;go_enter Tryz.func39,Tryz.ntmps39;go_wp2_with fail;refine(bY ax ay bx b_y _ _ _ (uf _ _ _ DS)).mono ?_;rintro e w1 ⟨rfl,hb⟩;rw[HV.out];go_wp2_with fail;go_ret;exact⟨rfl,by(repeat(with_reducible (first|assumption|exact Below.refl _ _|refine Below.drew ?_|refine below_drewN ?_ _|refine qj ?_ (Nat.le_refl _) _|refine qA DM ?_)))⟩
 ·have hv':qw ax ay=true∧qw bx b_y=true:=by simpa using hv
  have b1:=zu hv'.1;have b2:=zu hv'.2;have HV:Hid ((qw ax ay&&qw bx b_y)=true):=hide (by rw[hv'.1,hv'.2];rfl);have HI:Hid (qK ((bx-ax)*(bx-ax)+(b_y-ay)*(b_y-ay))):=hide (Gv hv'.1 hv'.2);have HR:Hid (qY ax ay bx b_y=vu ((bx-ax)*(bx-ax)+(b_y-ay)*(b_y-ay)).toNat):=hide (by unfold qY zV;rw[hv];rfl);clear hv hv';generalize qY ax ay bx b_y=R at*;obtain rfl:R=_:=HR.out;go_enter Tryz.func39,Tryz.ntmps39;go_wp2_with fail;refine(bY ax ay bx b_y _ _ _ (uf _ _ _ DS)).mono ?_;rintro e w1 ⟨rfl,hb⟩;rw[HV.out];have k0_0:=qe hb (b:=w.heap.size) (o:=0) (v:=Iv ax) DR;have k0_1:=qe hb (b:=w.heap.size) (o:=1) (v:=Iv ay) DR;have k1_0:=qe hb (b:=w.heap.size+1) (o:=0) (v:=Iv bx) DR;have k1_1:=qe hb (b:=w.heap.size+1) (o:=1) (v:=Iv b_y) DR;go_wp2_with(first|(go_at_call 91;(with_reducible refine(VT _ HI.out _).mono ?_);rintro e w' ⟨rfl,n,rfl⟩)|(go_at_call 74;(with_reducible refine(bW _ _ _ _ DL DL DL DL _).mono ?_);rintro e w' ⟨rfl,hb'⟩)|(go_at_call 92;(with_reducible refine(KN _ _ _ _ DL DL DL DL DL DL DL DL _).mono ?_);rintro e w' ⟨rfl,hb'⟩));go_ret;exact⟨rfl,by(repeat(with_reducible (first|assumption|exact Below.refl _ _|refine Below.drew ?_|refine below_drewN ?_ _|refine qj ?_ (Nat.le_refl _) _|refine qA DM ?_)))⟩
theorem ui(ax ay bx b_y:Int)(w:World):
 Calls Tryz.prog 109 #[.agg #[Iv ax,Iv ay],.agg #[Iv bx,Iv b_y]] w fun e w'=>e= .returned (Iv (qY ax ay bx b_y))∧Below w.heap.size w w':=by
 rcases hv:(qw ax ay&&qw bx b_y)with _|_
 ·have HR:Hid (qY ax ay bx b_y=0):=hide (by unfold qY;rw[hv];rfl);have HV:Hid ((qw ax ay&&qw bx b_y&&qw bx b_y)=false):=hide (by first|exact hv|(rw[hv];rfl));clear hv;generalize qY ax ay bx b_y=R at*;obtain rfl:R=0:=HR.out;go_enter Tryz.func109,Tryz.ntmps109;go_wp2_with fail;refine(zW ax ay bx b_y bx b_y _).mono ?_;rintro e w1 ⟨rfl,hb⟩;rw[HV.out];go_wp2_with fail;go_ret;exact⟨rfl,by(repeat(with_reducible (first|assumption|exact Below.refl _ _|refine Below.drew ?_|refine below_drewN ?_ _|refine qj ?_ (Nat.le_refl _) _|refine qA DM ?_)))⟩
 ·have hv':qw ax ay=true∧qw bx b_y=true:=by simpa using hv
  have b1:=zu hv'.1;have b2:=zu hv'.2;have HV:Hid ((qw ax ay&&qw bx b_y&&qw bx b_y)=true):=hide (by rw[hv'.1,hv'.2];rfl);have HI:Hid (qK ((bx-ax)*(bx-ax)+(b_y-ay)*(b_y-ay))):=hide (Gv hv'.1 hv'.2);have HR:Hid (qY ax ay bx b_y=vu ((bx-ax)*(bx-ax)+(b_y-ay)*(b_y-ay)).toNat):=hide (by unfold qY zV;rw[hv];rfl);clear hv hv';generalize qY ax ay bx b_y=R at*;obtain rfl:R=_:=HR.out;go_enter Tryz.func109,Tryz.ntmps109;go_wp2_with fail;refine(zW ax ay bx b_y bx b_y _).mono ?_;rintro e w1 ⟨rfl,hb⟩;rw[HV.out];have k0_0:=qe hb (b:=w.heap.size) (o:=0) (v:=Iv ax) DR;have k0_1:=qe hb (b:=w.heap.size) (o:=1) (v:=Iv ay) DR;have k1_0:=qe hb (b:=w.heap.size+1) (o:=0) (v:=Iv bx) DR;have k1_1:=qe hb (b:=w.heap.size+1) (o:=1) (v:=Iv b_y) DR;go_wp2_with(first|refine DG (QN _ HI.out _) ?_|(go_at_call 174;(with_reducible refine(JB _ _ _ _ _ _ _ _ DL DL DL DL DL DL DL DL _).mono ?_);rintro e w' ⟨rfl,hb'⟩)|(go_at_call 92;(with_reducible refine(KN _ _ _ _ DL DL DL DL DL DL DL DL _).mono ?_);rintro e w' ⟨rfl,hb'⟩));go_ret;exact⟨rfl,by(repeat(with_reducible (first|assumption|exact Below.refl _ _|refine Below.drew ?_|refine below_drewN ?_ _|refine qj ?_ (Nat.le_refl _) _|refine qA DM ?_)))⟩
end Go.Proofs.YtcgpbnlhnafhjaaGreatDoor
