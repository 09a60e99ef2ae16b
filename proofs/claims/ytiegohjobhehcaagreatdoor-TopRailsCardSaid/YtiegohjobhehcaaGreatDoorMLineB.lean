/-
  The walks of at, of the program and of the reference.
-/
import Derived.Test.YtiegohjobhehcaaGreatDoorMLineA
namespace Go.Proofs.YtiegohjobhehcaaGreatDoor
open Go.RowKit
set_option linter.unusedVariables false
set_option linter.unusedSimpArgs false
theorem zMLineB1{P:Prop}(h:P:=by(repeat(first|(with_reducible exact⟨qY,qY⟩)|(with_reducible refine km ?_)|(with_reducible refine vp ?_ _)|(with_reducible refine qI qY ?_)|((with_reducible refine bw ?_ ?_);(·(simp;done));(·rfl))|(with_reducible refine yo ?_ _)|(with_reducible refine uf ?_ _ _)))):P:=h
theorem zMLineB0{P:Prop}(h:P:=by(repeat(first|(with_reducible assumption)|(with_reducible refine qX ?_)|(with_reducible refine qV ?_ _)|(with_reducible refine qi qY ?_)|((with_reducible refine zf ?_ ?_);(·(simp;done));(·rfl))|(with_reducible refine qR ?_ _)|((with_reducible refine zr ?_ ?_ _);(·first|(simp;done)|(simp;omega)|omega))))):P:=h
theorem KY(m:Nat)(a b c:Int):qz (qL m a b c).1:=by
 unfold qL;unfold qz;split
 ·omega
 ·split
  ·rename_i h;unfold Qy at h;simpa using h
  ·omega
theorem wK{ax ay vx vy n d X Y E F:Int}(h1:qL 2 vx n d=(X,E))(h2:qL 2 vy n d=(Y,F))(h:¬(E=0∧F=0)):bc ax ay vx vy n d=(0,0,2):=by
 unfold bc;rw[h1,h2,if_neg h]
theorem wL{ax ay vx vy n d X Y:Int}(h1:qL 2 vx n d=(X,0))(h2:qL 2 vy n d=(Y,0))(h:qw (sat (ax+X)) (sat (ay+Y))=false):bc ax ay vx vy n d=(0,0,2):=by
 unfold bc;rw[h1,h2,if_pos ⟨rfl,rfl⟩,if_neg (by simp[h])]
theorem fO{ax ay vx vy n d X Y:Int}(h1:qL 2 vx n d=(X,0))(h2:qL 2 vy n d=(Y,0))(h:qw (sat (ax+X)) (sat (ay+Y))=true):bc ax ay vx vy n d=(sat (ax+X),sat (ay+Y),0):=by
 unfold bc;rw[h1,h2,if_pos ⟨rfl,rfl⟩,if_pos h]
set_option maxHeartbeats 1000000 in
theorem iR(ax ay vx vy n d:Int)(ha:qz ax)(hb:qz ay)(hx:qz vx)(hy:qz vy)(hn:qz n)(hd:qz d)(w:World)(R:Int×Int×Int)(hR:R=bc ax ay vx vy n d):
 Calls Tryz.prog 205 #[.agg #[Iv ax,Iv ay],.agg #[Iv vx,Iv vy],Iv n,Iv d] w fun e w'=>e= .returned (.tuple #[.agg #[Iv R.1,Iv R.2.1],Iv R.2.2])∧Below w.heap.size w w':=by
 have M1:=fun w=>vZ vx n d hx hn hd w
 have M2:=fun w=>vZ vy n d hy hn hd w
 have i1:=KY 2 vx n d;have i2:=KY 2 vy n d;have A1:=fun X Y E F=>wK (ax:=ax) (ay:=ay) (vx:=vx) (vy:=vy) (n:=n) (d:=d) (X:=X) (Y:=Y) (E:=E) (F:=F)
 have A2:=fun X Y=>wL (ax:=ax) (ay:=ay) (vx:=vx) (vy:=vy) (n:=n) (d:=d) (X:=X) (Y:=Y)
 have A3:=fun X Y=>fO (ax:=ax) (ay:=ay) (vx:=vx) (vy:=vy) (n:=n) (d:=d) (X:=X) (Y:=Y)
 generalize qL 2 vx n d=m1 at*;generalize qL 2 vy n d=m2 at*;rw[←hR]at A1 A2 A3;clear hR;obtain⟨X,E⟩:=m1;obtain⟨Y,F⟩:=m2;by_cases hE:E=0∧F=0
 ·obtain⟨rfl,rfl⟩:=hE;have A2:=A2 X Y rfl rfl;have A3:=A3 X Y rfl rfl;clear A1;rcases hv:qw (sat (ax+X)) (sat (ay+Y))with _|_
  all_goals
   have HV:=hide hv
  ·obtain rfl:=A2 hv;clear hv A3 A2;go_enter Tryz.func205,Tryz.ntmps205;go_wp2_with fail;refine(M1 _).mono ?_;rintro e w' ⟨rfl,n1,rfl⟩;go_wp2_with fail;refine(M2 _).mono ?_;rintro e w' ⟨rfl,n2,rfl⟩;go_wp2_with fail
   go_region_held3 (fun w'=>w'.cell? ⟨w.heap.size,0,none⟩=some (Iv ax)∧w'.cell? ⟨w.heap.size,1,none⟩=some (Iv ay)) ((go_split_ands;refine⟨?_,?_⟩<;>(repeat(first|(with_reducible assumption)|(with_reducible refine qX ?_)|(with_reducible refine qV ?_ _)|(with_reducible refine qi qY ?_)|((with_reducible refine zf ?_ ?_);(·(simp;done));(·rfl))|(with_reducible refine qR ?_ _)))))
    (first|(go_at_call 20;(with_reducible refine(Vm _ _ qY qY _).mono ?_);rintro e w' ⟨rfl,rfl⟩))
   all_goals
    go_wp2_with(go_at_call 31;refine(uH _ _ _ HV.out _).mono ?_;rintro e w' ⟨rfl,rfl⟩);exact bodyPost_ret (v:= .tuple #[.agg #[Iv 0,Iv 0],Iv 2]) (by simp[results,Tryz.results205,go_sem]) rfl ⟨rfl,by(repeat(with_reducible (first|assumption|exact Below.refl _ _|refine Below.drew ?_|refine below_drewN ?_ _|refine qK ?_ (by simp;try omega) _|refine qu ?_ (Nat.le_refl _) _|refine qH qY ?_)))⟩
  ·obtain rfl:=A3 hv;clear hv A3 A2;go_enter Tryz.func205,Tryz.ntmps205;go_wp2_with fail;refine(M1 _).mono ?_;rintro e w' ⟨rfl,n1,rfl⟩;go_wp2_with fail;refine(M2 _).mono ?_;rintro e w' ⟨rfl,n2,rfl⟩;go_wp2_with fail
   go_region_held3 (fun w'=>w'.cell? ⟨w.heap.size,0,none⟩=some (Iv ax)∧w'.cell? ⟨w.heap.size,1,none⟩=some (Iv ay)) ((go_split_ands;refine⟨?_,?_⟩<;>(repeat(first|(with_reducible assumption)|(with_reducible refine qX ?_)|(with_reducible refine qV ?_ _)|(with_reducible refine qi qY ?_)|((with_reducible refine zf ?_ ?_);(·(simp;done));(·rfl))|(with_reducible refine qR ?_ _)))))
    (first|(go_at_call 20;(with_reducible refine(Vm _ _ qY qY _).mono ?_);rintro e w' ⟨rfl,rfl⟩))
   all_goals
    go_wp2_with(go_at_call 31;refine(uH _ _ _ HV.out _).mono ?_;rintro e w' ⟨rfl,rfl⟩);exact bodyPost_ret (v:= .tuple #[.agg #[Iv (sat (ax+X)),Iv (sat (ay+Y))],Iv 0]) (by simp[results,Tryz.results205,go_sem]) rfl ⟨rfl,by(repeat(with_reducible (first|assumption|exact Below.refl _ _|refine Below.drew ?_|refine below_drewN ?_ _|refine qK ?_ (by simp;try omega) _|refine qu ?_ (Nat.le_refl _) _|refine qH qY ?_)))⟩
 ·obtain rfl:=A1 X Y E F rfl rfl hE
  have T:(E !=0)=true∨((E !=0)=false∧(F !=0)=true):=by
   by_cases hE0:E=0
   ·right;exact⟨by simp[hE0],by rw[bne_iff_ne];intro hF;exact hE ⟨hE0,hF⟩⟩
   ·left;rw[bne_iff_ne];exact hE0
  clear A1 A2 A3 hE;rcases T with t1|⟨t1,t2⟩
  all_goals
   go_enter Tryz.func205,Tryz.ntmps205;go_wp2_with fail;refine(M1 _).mono ?_;rintro e w' ⟨rfl,n1,rfl⟩;go_wp2_with fail;refine(M2 _).mono ?_;rintro e w' ⟨rfl,n2,rfl⟩;go_wp2_with fail;exact bodyPost_ret (v:= .tuple #[.agg #[Iv 0,Iv 0],Iv 2]) (by simp[results,Tryz.results205,go_sem]) rfl ⟨rfl,by(repeat(with_reducible (first|assumption|exact Below.refl _ _|refine Below.drew ?_|refine below_drewN ?_ _|refine qK ?_ (by simp;try omega) _|refine qu ?_ (Nat.le_refl _) _|refine qH qY ?_)))⟩
theorem VJ{a b c d:Int}(h1: -4000000≤a)(h2:a≤4000000)(h3: -4000000≤b)(h4:b≤4000000)(h5: -4000000≤c)(h6:c≤4000000)(h7: -4000000≤d)(h8:d≤4000000):qz (a*c+b*d)∧qz (a*d-b*c):=by
 have p1:=vh h1 h2 h5 h6;have p2:=vh h3 h4 h7 h8;have p3:=vh h1 h2 h7 h8;have p4:=vh h3 h4 h5 h6;unfold qz;omega
set_option maxHeartbeats 1000000 in
theorem Gl(ax ay bx b_y px py:Int)(w:World)(R:Int×Int×Int)(hR:R=Kc ax ay bx b_y px py):
 Calls Tryz.prog 158 #[.agg #[Iv ax,Iv ay],.agg #[Iv bx,Iv b_y],.agg #[Iv px,Iv py]] w fun e w'=>e= .returned (.tuple #[.agg #[Iv R.1,Iv R.2.1],Iv R.2.2])∧Below w.heap.size w w':=by
 unfold Kc at hR;rcases hv:(qw ax ay&&qw bx b_y&&qw px py)with _|_
 ·rw[hv,if_pos jL]at hR;subst hR;have HV:=hide hv;clear hv;go_enter Tryz.func158,Tryz.ntmps158;go_wp2_with fail;refine(kC ax ay bx b_y px py _ _ _ (uo _ _ _ jL)).mono ?_;rintro e w1 ⟨rfl,hb⟩;rw[HV.out];have k_0:=qi hb (b:=w.heap.size) (o:=0) (v:=Iv ax) yt;have k_1:=qi hb (b:=w.heap.size) (o:=1) (v:=Iv ay) yt;have k_2:=qi hb (b:=w.heap.size+1) (o:=0) (v:=Iv bx) yt;have k_3:=qi hb (b:=w.heap.size+1) (o:=1) (v:=Iv b_y) yt;have k_4:=qi hb (b:=w.heap.size+1+1) (o:=0) (v:=Iv px) yt;have k_5:=qi hb (b:=w.heap.size+1+1) (o:=1) (v:=Iv py) yt;have m_0:=qI hb (a:=⟨w.heap.size+1+1+1,0,none⟩) (jI (v:=Iv 0) yt yt);have m_1:=qI hb (a:=⟨w.heap.size+1+1+1,1,none⟩) (jI (v:=Iv 0) yt yt);obtain⟨m_0a,m_0b⟩:=m_0;obtain⟨m_1a,m_1b⟩:=m_1;go_wp2_with fail;exact bodyPost_ret (v:= .tuple #[.agg #[Iv 0,Iv 0],Iv 1]) (by simp[results,Tryz.results158,go_sem, *]) rfl ⟨rfl,by(repeat(with_reducible (first|assumption|exact Below.refl _ _|refine Below.drew ?_|refine below_drewN ?_ _|refine qK ?_ (by simp;try omega) _|refine qu ?_ (Nat.le_refl _) _|refine qH qY ?_)))⟩
 rw[hv,if_neg jL]at hR;have hv':(qw ax ay=true∧qw bx b_y=true)∧qw px py=true:=by simpa using hv
 have b1:=jX hv'.1.1;have b2:=jX hv'.1.2;have b3:=jX hv'.2;have HV:=hide hv;clear hv hv';by_cases he:ax=bx∧ay=b_y
 ·rw[if_pos he]at hR;subst hR;obtain⟨rfl,rfl⟩:=he;go_enter Tryz.func158,Tryz.ntmps158;go_wp2_with fail;refine(kC ax ay ax ay px py _ _ _ (uo _ _ _ jL)).mono ?_;rintro e w1 ⟨rfl,hb⟩;rw[HV.out];have k_0:=qi hb (b:=w.heap.size) (o:=0) (v:=Iv ax) yt;have k_1:=qi hb (b:=w.heap.size) (o:=1) (v:=Iv ay) yt;have k_2:=qi hb (b:=w.heap.size+1) (o:=0) (v:=Iv ax) yt;have k_3:=qi hb (b:=w.heap.size+1) (o:=1) (v:=Iv ay) yt;have k_4:=qi hb (b:=w.heap.size+1+1) (o:=0) (v:=Iv px) yt;have k_5:=qi hb (b:=w.heap.size+1+1) (o:=1) (v:=Iv py) yt;have m_0:=qI hb (a:=⟨w.heap.size+1+1+1,0,none⟩) (jI (v:=Iv 0) yt yt);have m_1:=qI hb (a:=⟨w.heap.size+1+1+1,1,none⟩) (jI (v:=Iv 0) yt yt);obtain⟨m_0a,m_0b⟩:=m_0;obtain⟨m_1a,m_1b⟩:=m_1;go_wp2_with fail;exact bodyPost_ret (v:= .tuple #[.agg #[Iv 0,Iv 0],Iv 10]) (by simp[results,Tryz.results158,go_sem, *]) rfl ⟨rfl,by(repeat(with_reducible (first|assumption|exact Below.refl _ _|refine Below.drew ?_|refine below_drewN ?_ _|refine qK ?_ (by simp;try omega) _|refine qu ?_ (Nat.le_refl _) _|refine qH qY ?_)))⟩
 rw[if_neg he]at hR;unfold yH at hR;have HR:=hide hR;clear hR;have d1:=(VJ (a:=bx-ax) (b:=b_y-ay) (c:=px-ax) (d:=py-ay) qg qg qg qg qg qg qg qg).1;have d2:=(VJ (a:=bx-ax) (b:=b_y-ay) (c:=bx-ax) (d:=b_y-ay) qg qg qg qg qg qg qg qg).1;have i1:qz ax:=yq;have i2:qz ay:=yq;have i3:qz (bx-ax):=yq;have i4:qz (b_y-ay):=yq
 have T:((ax==bx)=true∧(ay==b_y)=false)∨(ax==bx)=false:=by
  by_cases hx0:ax=bx
  ·left;simp[hx0];intro hy0;exact he ⟨hx0,hy0⟩
  ·right;simp[hx0]
 clear he;rcases T with⟨t1,t2⟩|t1
 all_goals
  go_enter Tryz.func158,Tryz.ntmps158;go_wp2_with fail;refine(kC ax ay bx b_y px py _ _ _ (uo _ _ _ jL)).mono ?_;rintro e w1 ⟨rfl,hb⟩;rw[HV.out];have k_0:=qi hb (b:=w.heap.size) (o:=0) (v:=Iv ax) yt;have k_1:=qi hb (b:=w.heap.size) (o:=1) (v:=Iv ay) yt;have k_2:=qi hb (b:=w.heap.size+1) (o:=0) (v:=Iv bx) yt;have k_3:=qi hb (b:=w.heap.size+1) (o:=1) (v:=Iv b_y) yt;have k_4:=qi hb (b:=w.heap.size+1+1) (o:=0) (v:=Iv px) yt;have k_5:=qi hb (b:=w.heap.size+1+1) (o:=1) (v:=Iv py) yt;have m_0:=qI hb (a:=⟨w.heap.size+1+1+1,0,none⟩) (jI (v:=Iv 0) yt yt);have m_1:=qI hb (a:=⟨w.heap.size+1+1+1,1,none⟩) (jI (v:=Iv 0) yt yt);obtain⟨m_0a,m_0b⟩:=m_0;obtain⟨m_1a,m_1b⟩:=m_1;have hz:=hb.size;simp at hz;have hz1:w.heap.size+1+1+1<w1.heap.size:=qg;have HB:=hide hb;go_wp2_with fail;refine(xm _ _ _ _ qg qg qg qg _).mono ?_;rintro e w2 ⟨rfl,hb2⟩;have hz2:=hb2.size;go_wp2_with fail
  go_region_held3 (fun w'=>w'.cell? ⟨w.heap.size,0,none⟩=some (Iv ax)∧w'.cell? ⟨w.heap.size,1,none⟩=some (Iv ay)∧w'.cell? ⟨w.heap.size+1,0,none⟩=some (Iv bx)∧w'.cell? ⟨w.heap.size+1,1,none⟩=some (Iv b_y)∧w'.cell? ⟨w.heap.size+1+1,0,none⟩=some (Iv px)∧w'.cell? ⟨w.heap.size+1+1,1,none⟩=some (Iv py)∧w'.cell? ⟨w2.heap.size,0,none⟩=some (Iv (bx-ax))∧w'.cell? ⟨w2.heap.size,1,none⟩=some (Iv (b_y-ay))∧(w'.cell? ⟨w.heap.size+1+1+1,0,none⟩=some (jZ w' ⟨w.heap.size+1+1+1,0,none⟩)∧w'.frozen? ⟨w.heap.size+1+1+1,0,none⟩=false)∧(w'.cell? ⟨w.heap.size+1+1+1,1,none⟩=some (jZ w' ⟨w.heap.size+1+1+1,1,none⟩)∧w'.frozen? ⟨w.heap.size+1+1+1,1,none⟩=false)) ((go_split_ands;refine⟨?_,?_,?_,?_,?_,?_,?_,?_,?_,?_⟩;(·exact zMLineB0);(·exact zMLineB0);(·exact zMLineB0);(·exact zMLineB0);(·exact zMLineB0);(·exact zMLineB0);(·exact zMLineB0);(·exact zMLineB0);(·exact zMLineB1);(·exact zMLineB1)))
   (first|(go_at_call 27;(with_reducible refine(xm _ _ _ _ qg qg qg qg _).mono ?_);rintro e w' ⟨rfl,hb'⟩)|(go_at_call 91;(with_reducible refine(Gf _ _ _ _ qg qg qg qg qg qg qg qg _).mono ?_);rintro e w' ⟨rfl,hb'⟩)|(go_at_call 205;(with_reducible refine(iR _ _ _ _ _ _ qY qY qY qY qY qY _ R HR.out).mono ?_);rintro e w' ⟨rfl,hb'⟩))
  all_goals
   rename_i hH;clear hH;obtain⟨q0,q0'⟩:w'.cell? ⟨w.heap.size+1+1+1,0,none⟩=some (jZ w' ⟨w.heap.size+1+1+1,0,none⟩)∧w'.frozen? ⟨w.heap.size+1+1+1,0,none⟩=false:=by(repeat(first|(with_reducible exact⟨qY,qY⟩)|(with_reducible refine km ?_)|(with_reducible refine vp ?_ _)|(with_reducible refine qI qY ?_)|((with_reducible refine bw ?_ ?_);(·(simp;done));(·rfl))|(with_reducible refine yo ?_ _)|(with_reducible refine uf ?_ _ _)))
   obtain⟨q1,q1'⟩:w'.cell? ⟨w.heap.size+1+1+1,1,none⟩=some (jZ w' ⟨w.heap.size+1+1+1,1,none⟩)∧w'.frozen? ⟨w.heap.size+1+1+1,1,none⟩=false:=by(repeat(first|(with_reducible exact⟨qY,qY⟩)|(with_reducible refine km ?_)|(with_reducible refine vp ?_ _)|(with_reducible refine qI qY ?_)|((with_reducible refine bw ?_ ?_);(·(simp;done));(·rfl))|(with_reducible refine yo ?_ _)|(with_reducible refine uf ?_ _ _)))
   go_wp2_with fail;exact bodyPost_ret (v:= .tuple #[.agg #[Iv R.1,Iv R.2.1],Iv R.2.2]) (by simp[results,Tryz.results158,go_sem, *]) rfl ⟨rfl,by(repeat(with_reducible (first|assumption|exact Below.refl _ _|refine Below.drew ?_|refine below_drewN ?_ _|refine qK ?_ (by simp;try omega) _|refine qu ?_ (Nat.le_refl _) _|refine qH qY ?_)))⟩
set_option maxHeartbeats 2000000 in
theorem QK(ax ay bx b_y cx cy dx dy:Int)(w:World)(R:Int×Int×Int)(hR:R=YP ax ay bx b_y cx cy dx dy):
 Calls Tryz.prog 160 #[.agg #[Iv ax,Iv ay],.agg #[Iv bx,Iv b_y],.agg #[Iv cx,Iv cy],.agg #[Iv dx,Iv dy]] w fun e w'=>e= .returned (.tuple #[.agg #[Iv R.1,Iv R.2.1],Iv R.2.2])∧Below w.heap.size w w':=by
 unfold YP at hR;rcases hv:(qw ax ay&&qw bx b_y&&qw cx cy&&qw dx dy)with _|_
 ·rw[hv,if_pos jL]at hR;subst hR;have HV:=hide hv;clear hv;go_enter Tryz.func160,Tryz.ntmps160;go_wp2_with fail;refine(VE ax ay bx b_y cx cy dx dy _ _ _ (uo _ _ _ jL)).mono ?_;rintro e w1 ⟨rfl,hb⟩;rw[HV.out];have k_0:=qi hb (b:=w.heap.size) (o:=0) (v:=Iv ax) yt;have k_1:=qi hb (b:=w.heap.size) (o:=1) (v:=Iv ay) yt;have k_2:=qi hb (b:=w.heap.size+1) (o:=0) (v:=Iv bx) yt;have k_3:=qi hb (b:=w.heap.size+1) (o:=1) (v:=Iv b_y) yt;have k_4:=qi hb (b:=w.heap.size+1+1) (o:=0) (v:=Iv cx) yt;have k_5:=qi hb (b:=w.heap.size+1+1) (o:=1) (v:=Iv cy) yt;have k_6:=qi hb (b:=w.heap.size+1+1+1) (o:=0) (v:=Iv dx) yt;have k_7:=qi hb (b:=w.heap.size+1+1+1) (o:=1) (v:=Iv dy) yt;have m_0:=qI hb (a:=⟨w.heap.size+1+1+1+1,0,none⟩) (jI (v:=Iv 0) yt yt);have m_1:=qI hb (a:=⟨w.heap.size+1+1+1+1,1,none⟩) (jI (v:=Iv 0) yt yt);obtain⟨m_0a,m_0b⟩:=m_0;obtain⟨m_1a,m_1b⟩:=m_1;go_wp2_with fail;exact bodyPost_ret (v:= .tuple #[.agg #[Iv 0,Iv 0],Iv 1]) (by simp[results,Tryz.results160,go_sem, *]) rfl ⟨rfl,by(repeat(with_reducible (first|assumption|exact Below.refl _ _|refine Below.drew ?_|refine below_drewN ?_ _|refine qK ?_ (by simp;try omega) _|refine qu ?_ (Nat.le_refl _) _|refine qH qY ?_)))⟩
 rw[hv,if_neg jL]at hR;have hv':((qw ax ay=true∧qw bx b_y=true)∧qw cx cy=true)∧qw dx dy=true:=by simpa using hv
 have b1:=jX hv'.1.1.1;have b2:=jX hv'.1.1.2;have b3:=jX hv'.1.2;have b4:=jX hv'.2;have HV:=hide hv;clear hv hv';have d1:=(VJ (a:=bx-ax) (b:=b_y-ay) (c:=dx-cx) (d:=dy-cy) qg qg qg qg qg qg qg qg).2;have d2:=(VJ (a:=cx-ax) (b:=cy-ay) (c:=dx-cx) (d:=dy-cy) qg qg qg qg qg qg qg qg).2;have i1:qz ax:=yq;have i2:qz ay:=yq;have i3:qz (bx-ax):=yq;have i4:qz (b_y-ay):=yq;have HR:=hide hR;clear hR;go_enter Tryz.func160,Tryz.ntmps160;go_wp2_with fail;refine(VE ax ay bx b_y cx cy dx dy _ _ _ (uo _ _ _ jL)).mono ?_;rintro e w1 ⟨rfl,hb⟩;rw[HV.out];have k_0:=qi hb (b:=w.heap.size) (o:=0) (v:=Iv ax) yt;have k_1:=qi hb (b:=w.heap.size) (o:=1) (v:=Iv ay) yt;have k_2:=qi hb (b:=w.heap.size+1) (o:=0) (v:=Iv bx) yt;have k_3:=qi hb (b:=w.heap.size+1) (o:=1) (v:=Iv b_y) yt;have k_4:=qi hb (b:=w.heap.size+1+1) (o:=0) (v:=Iv cx) yt;have k_5:=qi hb (b:=w.heap.size+1+1) (o:=1) (v:=Iv cy) yt;have k_6:=qi hb (b:=w.heap.size+1+1+1) (o:=0) (v:=Iv dx) yt;have k_7:=qi hb (b:=w.heap.size+1+1+1) (o:=1) (v:=Iv dy) yt;have m_0:=qI hb (a:=⟨w.heap.size+1+1+1+1,0,none⟩) (jI (v:=Iv 0) yt yt);have m_1:=qI hb (a:=⟨w.heap.size+1+1+1+1,1,none⟩) (jI (v:=Iv 0) yt yt);obtain⟨m_0a,m_0b⟩:=m_0;obtain⟨m_1a,m_1b⟩:=m_1;have hz:=hb.size;simp at hz;have hz1:w.heap.size+1+1+1+1<w1.heap.size:=qg;go_wp2_with fail;go_cut [10,11] (fun s10 s11 wx=>∃g h:Nat,s10= .pointer (some ⟨g,0,none⟩)∧s11= .pointer (some ⟨h,0,none⟩)∧(wx.cell? ⟨g,0,none⟩=some (Iv (bx-ax))∧wx.cell? ⟨g,1,none⟩=some (Iv (b_y-ay))∧wx.cell? ⟨h,0,none⟩=some (Iv (dx-cx))∧wx.cell? ⟨h,1,none⟩=some (Iv (dy-cy)))∧(w1.heap.size≤g∧w1.heap.size≤h)∧Below w1.heap.size w1 wx)
 case first=>
  go_region_held3 (fun w'=>w'.cell? ⟨w.heap.size,0,none⟩=some (Iv ax)∧w'.cell? ⟨w.heap.size,1,none⟩=some (Iv ay)∧w'.cell? ⟨w.heap.size+1,0,none⟩=some (Iv bx)∧w'.cell? ⟨w.heap.size+1,1,none⟩=some (Iv b_y)∧w'.cell? ⟨w.heap.size+1+1,0,none⟩=some (Iv cx)∧w'.cell? ⟨w.heap.size+1+1,1,none⟩=some (Iv cy)∧w'.cell? ⟨w.heap.size+1+1+1,0,none⟩=some (Iv dx)∧w'.cell? ⟨w.heap.size+1+1+1,1,none⟩=some (Iv dy)) ((go_split_ands;refine⟨?_,?_,?_,?_,?_,?_,?_,?_⟩<;>(repeat(first|(with_reducible assumption)|(with_reducible refine qX ?_)|(with_reducible refine qV ?_ _)|(with_reducible refine qi qY ?_)|((with_reducible refine zf ?_ ?_);(·(simp;done));(·rfl))|(with_reducible refine qR ?_ _)|((with_reducible refine zr ?_ ?_ _);(·first|(simp;done)|(simp;omega)|omega))))))
   (first|(go_at_call 27;(with_reducible refine(ZW _ _ _ _ qg qg qg qg _).mono ?_);rintro e w' ⟨rfl,rfl⟩))
  all_goals
   go_wp2_with fail;go_meet;refine⟨_,_,rfl,rfl,?_,?_,?_⟩
   ·simp[go_sem]
   ·constructor<;>(first|omega|(simp;omega))
   ·(repeat(with_reducible (first|assumption|exact Below.refl _ _|refine Below.drew ?_|refine below_drewN ?_ _|refine qK ?_ (by simp;try omega) _|refine qu ?_ (Nat.le_refl _) _|refine qH qY ?_)))
 case rest=>
  obtain⟨g,h,rfl,rfl,⟨c1,c2,c3,c4⟩,⟨hg,hh⟩,hbc⟩:=hcut;have hz2:=hbc.size;have hR:=HR.out;by_cases h0:(bx-ax)*(dy-cy)-(b_y-ay)*(dx-cx)=0
  ·rw[if_pos h0]at hR;subst hR;have T:((bx-ax)*(dy-cy)-(b_y-ay)*(dx-cx)==0)=true:=by rw[h0];rfl
   have H0:=hide h0;clear h0;go_wp2_with fail;refine(Vb _ _ _ _ qg qg qg qg qg qg qg qg _).mono ?_;rintro e w3 ⟨rfl,hb3⟩;obtain⟨q0,q0'⟩:=qI hb3 (qI hbc ⟨m_0a,m_0b⟩);obtain⟨q1,q1'⟩:=qI hb3 (qI hbc ⟨m_1a,m_1b⟩);go_wp2_with fail;exact bodyPost_ret (v:= .tuple #[.agg #[Iv 0,Iv 0],Iv 10]) (by simp[results,Tryz.results160,go_sem, *]) rfl ⟨rfl,by(repeat(with_reducible (first|assumption|exact Below.refl _ _|refine Below.drew ?_|refine below_drewN ?_ _|refine qK ?_ (by simp;try omega) _|refine qu ?_ (Nat.le_refl _) _|refine qH qY ?_)))⟩
  ·rw[if_neg h0]at hR;have T:((bx-ax)*(dy-cy)-(b_y-ay)*(dx-cx)==0)=false:=by simpa using h0
   clear h0 HR;have HR:=hide hR;clear hR;go_wp2_with fail;refine(Vb _ _ _ _ qg qg qg qg qg qg qg qg _).mono ?_;rintro e w3 ⟨rfl,hb3⟩;have hz3:=hb3.size;obtain⟨q0,q0'⟩:=qI hb3 (qI hbc ⟨m_0a,m_0b⟩);obtain⟨q1,q1'⟩:=qI hb3 (qI hbc ⟨m_1a,m_1b⟩);have e0:=qi hb3 (qi hbc k_0);have e1:=qi hb3 (qi hbc k_1);have e4:=qi hb3 (qi hbc k_4);have e5:=qi hb3 (qi hbc k_5);have e11:=qi hb3 c1;have e12:=qi hb3 c2;have e13:=qi hb3 c3;have e14:=qi hb3 c4;go_wp2_with fail
   go_region_held3 (fun w'=>w'.cell? ⟨w.heap.size,0,none⟩=some (Iv ax)∧w'.cell? ⟨w.heap.size,1,none⟩=some (Iv ay)∧w'.cell? ⟨w.heap.size+1+1,0,none⟩=some (Iv cx)∧w'.cell? ⟨w.heap.size+1+1,1,none⟩=some (Iv cy)∧w'.cell? ⟨g,0,none⟩=some (Iv (bx-ax))∧w'.cell? ⟨g,1,none⟩=some (Iv (b_y-ay))∧w'.cell? ⟨h,0,none⟩=some (Iv (dx-cx))∧w'.cell? ⟨h,1,none⟩=some (Iv (dy-cy))∧(w'.cell? ⟨w.heap.size+1+1+1+1,0,none⟩=some (jZ w' ⟨w.heap.size+1+1+1+1,0,none⟩)∧w'.frozen? ⟨w.heap.size+1+1+1+1,0,none⟩=false)∧(w'.cell? ⟨w.heap.size+1+1+1+1,1,none⟩=some (jZ w' ⟨w.heap.size+1+1+1+1,1,none⟩)∧w'.frozen? ⟨w.heap.size+1+1+1+1,1,none⟩=false)) ((go_split_ands;refine⟨?_,?_,?_,?_,?_,?_,?_,?_,?_,?_⟩;(·exact zMLineB0);(·exact zMLineB0);(·exact zMLineB0);(·exact zMLineB0);(·exact zMLineB0);(·exact zMLineB0);(·exact zMLineB0);(·exact zMLineB0);(·exact zMLineB1);(·exact zMLineB1)))
    (first|(go_at_call 27;(with_reducible refine(xm _ _ _ _ qg qg qg qg _).mono ?_);rintro e w' ⟨rfl,hb'⟩)|(go_at_call 204;(with_reducible refine(Vb _ _ _ _ qg qg qg qg qg qg qg qg _).mono ?_);rintro e w' ⟨rfl,hb'⟩)|(go_at_call 205;(with_reducible refine(iR _ _ _ _ _ _ qY qY qY qY qY qY _ R HR.out).mono ?_);rintro e w' ⟨rfl,hb'⟩))
   all_goals
    rename_i hH;clear hH;obtain⟨q0,q0'⟩:w'.cell? ⟨w.heap.size+1+1+1+1,0,none⟩=some (jZ w' ⟨w.heap.size+1+1+1+1,0,none⟩)∧w'.frozen? ⟨w.heap.size+1+1+1+1,0,none⟩=false:=by(repeat(first|(with_reducible exact⟨qY,qY⟩)|(with_reducible refine km ?_)|(with_reducible refine vp ?_ _)|(with_reducible refine qI qY ?_)|((with_reducible refine bw ?_ ?_);(·(simp;done));(·rfl))|(with_reducible refine yo ?_ _)|(with_reducible refine uf ?_ _ _)))
    obtain⟨q1,q1'⟩:w'.cell? ⟨w.heap.size+1+1+1+1,1,none⟩=some (jZ w' ⟨w.heap.size+1+1+1+1,1,none⟩)∧w'.frozen? ⟨w.heap.size+1+1+1+1,1,none⟩=false:=by(repeat(first|(with_reducible exact⟨qY,qY⟩)|(with_reducible refine km ?_)|(with_reducible refine vp ?_ _)|(with_reducible refine qI qY ?_)|((with_reducible refine bw ?_ ?_);(·(simp;done));(·rfl))|(with_reducible refine yo ?_ _)|(with_reducible refine uf ?_ _ _)))
    go_wp2_with fail;exact bodyPost_ret (v:= .tuple #[.agg #[Iv R.1,Iv R.2.1],Iv R.2.2]) (by simp[results,Tryz.results160,go_sem, *]) rfl ⟨rfl,by(repeat(with_reducible (first|assumption|exact Below.refl _ _|refine Below.drew ?_|refine below_drewN ?_ _|refine qK ?_ (by simp;try omega) _|refine qu ?_ (Nat.le_refl _) _|refine qH qY ?_)))⟩
end Go.Proofs.YtiegohjobhehcaaGreatDoor
