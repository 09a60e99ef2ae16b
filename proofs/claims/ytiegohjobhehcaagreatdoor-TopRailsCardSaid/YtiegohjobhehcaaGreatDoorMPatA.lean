/-
  The check of an element of a path by itself, by boxes.
-/
import Derived.Test.YtiegohjobhehcaaGreatDoorMTurnM
import Derived.Test.YtiegohjobhehcaaGreatDoorMPlan3
set_option maxRecDepth 100000
set_option maxHeartbeats 16000000
namespace Go.Proofs.YtiegohjobhehcaaGreatDoor
open Go.RowKit
set_option linter.unusedVariables false
set_option linter.unusedSimpArgs false
theorem zMPatA0{P:Prop}(h:P:=by(repeat(with_reducible (first|assumption|exact Below.refl _ _|refine Below.drew ?_|refine below_drewN ?_ _|refine qK ?_ (by simp;try omega) _|refine qu ?_ (Nat.le_refl _) _|refine qH qY ?_)))):P:=h
theorem lg(cx cy r f s al:Int):(-2000000≤(jJ cx cy r f s al).1∧(jJ cx cy r f s al).1≤2000000)∧(-2000000≤(jJ cx cy r f s al).2.1∧(jJ cx cy r f s al).2.1≤2000000):=by
 unfold jJ;split
 ·simp
 split
 ·simp
 split
 ·rename_i h;obtain⟨_,_,_,k,e1,e2⟩:=Kr h;have b:=jX k;simp only[e1,e2];omega
 ·simp
theorem lh(px py qx qy:Int)(h0: -4000000≤px)(g0:px≤4000000)(h1: -4000000≤py)(g1:py≤4000000)(h2: -4000000≤qx)(g2:qx≤4000000)(h3: -4000000≤qy)(g3:qy≤4000000)(w:World):
 Calls Tryz.prog 198 #[.agg #[Iv px,Iv py],.agg #[Iv qx,Iv qy]] w fun e w'=>e= .returned (.bool (sM px py qx qy))∧Below w.heap.size w w':=by
 have AX:=fun W=>kV (px-qx) yq qg W
 have AY:=fun W=>kV (py-qy) yq qg W
 have wx:=IntWalk.i64_in (px-qx) qg;have wy:=IntWalk.i64_in (py-qy) qg;have hM:=qo w;by_cases k1:16<((px-qx).natAbs:Int)
 ·have hf:sM px py qx qy=true:=decide_eq_true (.inl k1);rw[hf];go_enter Tryz.func198,Tryz.ntmps198;go_wp2_with(first|(refine qe ?_;clear hM;intro g W hM)|(go_at_call 67;(first|(with_reducible refine(AX _).mono ?_)|(with_reducible refine(AY _).mono ?_));rintro e W1 ⟨rfl,rfl⟩))
  all_goals
   go_ret;exact⟨by first|rfl|(simp[k1];done)|(simp[k1,k2];done),hM.below⟩
 ·by_cases k2:16<((py-qy).natAbs:Int)
  ·have hf:sM px py qx qy=true:=decide_eq_true (.inr k2);rw[hf];go_enter Tryz.func198,Tryz.ntmps198;go_wp2_with(first|(refine qe ?_;clear hM;intro g W hM)|(go_at_call 67;(first|(with_reducible refine(AX _).mono ?_)|(with_reducible refine(AY _).mono ?_));rintro e W1 ⟨rfl,rfl⟩))
   all_goals
    go_ret;exact⟨by first|rfl|(simp[k1];done)|(simp[k1,k2];done),hM.below⟩
  ·have hf:sM px py qx qy=false:=decide_eq_false (by rintro(h|h);exact k1 h;exact k2 h);rw[hf];go_enter Tryz.func198,Tryz.ntmps198;go_wp2_with(first|(refine qe ?_;clear hM;intro g W hM)|(go_at_call 67;(first|(with_reducible refine(AX _).mono ?_)|(with_reducible refine(AY _).mono ?_));rintro e W1 ⟨rfl,rfl⟩))
   all_goals
    go_ret;exact⟨by first|rfl|(simp[k1];done)|(simp[k1,k2];done),hM.below⟩
theorem Gv(cx cy r f s al px py:Int)(hp:qw px py=true)(w:World):
 Calls Tryz.prog 143 #[.agg #[Iv cx,Iv cy,Iv r,Iv f,Iv s],Iv al,.agg #[Iv px,Iv py]] w fun e w'=>e= .returned (.bool (ZI cx cy r f s al px py))∧Below w.heap.size w w':=by
 have b:=lg cx cy r f s al;have v:=jX hp;have AT:=fun W=>tI cx cy r f s al W _ rfl
 unfold ZI;obtain⟨⟨x,y,k,E⟩,hR⟩:∃R,jJ cx cy r f s al=R:=⟨_,rfl⟩;rw[hR]at AT b;rw[hR];dsimp only at b;have FA:=fun W=>lh px py x y qg qg qg qg qg qg qg qg W
 clear b v hR;have hM:=qo w;by_cases h0:E=0
 ·subst h0;rw[decide_eq_true (show((x,y,k,(0:Int)):Int×Int×Int×Int).2.2.2=0 from rfl),Bool.true_and];dsimp only;go_enter Tryz.func143,Tryz.ntmps143;go_wp2_with(first|(refine qe ?_;clear hM;intro g W hM)|(go_at_call 24;(first|(with_reducible refine cb hM (AT _) ?_));clear hM;intro W1 hM)|(go_at_call 198;(first|(with_reducible refine cb hM (FA _) ?_));clear hM;intro W1 hM))
  all_goals
   go_ret;exact⟨rfl,hM.below⟩
 ·have h1:(E==0)=false:=by simpa using h0
  rw[decide_eq_false (show¬((x,y,k,E):Int×Int×Int×Int).2.2.2=0 from h0),Bool.false_and];clear h0;go_enter Tryz.func143,Tryz.ntmps143;go_wp2_with(first|(refine qe ?_;clear hM;intro g W hM)|(go_at_call 24;(first|(with_reducible refine cb hM (AT _) ?_));clear hM;intro W1 hM))
  all_goals
   go_ret;exact⟨rfl,hM.below⟩
theorem li(c g:Bool)(ax ay bx b_y cx cy r f s L n:Int)(w:World):
 Calls Tryz.prog 65 #[.agg #[.bool c,Iv ax,Iv ay,Iv bx,Iv b_y,Iv cx,Iv cy,Iv r,Iv f,Iv s,Iv L,Iv n,.bool g]] w fun e w'=>e= .returned (Iv (ZJ c ax ay bx b_y cx cy r f s L))∧Below w.heap.size w w':=by
 have PA:=fun W=>qE ax ay W
 have PB:=fun W=>qE bx b_y W
 have DI:=fun W=>yG ax ay bx b_y W
 have TV:=fun W=>Qn cx cy r f s W
 have TL:=fun W=>tH cx cy r f s W
 have hM:=qo w;unfold ZJ;rcases ha:qw ax ay with _|_
 ·rw[ha]at PA;rw[Bool.false_and,if_pos jL];clear ha;go_enter Tryz.func65,Tryz.ntmps65;go_wp2_with(first|(go_at_call 31;(first|(with_reducible refine cb hM (PA _) ?_)|(with_reducible refine cb hM (PB _) ?_));clear hM;intro W1 hM)|((with_reducible refine lX ?_);refine mL ?_)|((with_reducible refine sX ?_);refine mS ?_;clear hM;intro W hM)|((with_reducible refine bX ?_);refine mB ?_;clear hM;intro g W hM)|((with_reducible refine zX ?_);refine mB ?_;clear hM;intro g W hM))
  all_goals
   go_ret;exact⟨rfl,hM.below⟩
 rcases hb:qw bx b_y with _|_
 ·rw[ha]at PA;rw[hb]at PB;rw[Bool.true_and,if_pos jL];clear ha hb;go_enter Tryz.func65,Tryz.ntmps65;go_wp2_with(first|(go_at_call 31;(first|(with_reducible refine cb hM (PA _) ?_)|(with_reducible refine cb hM (PB _) ?_));clear hM;intro W1 hM)|((with_reducible refine lX ?_);refine mL ?_)|((with_reducible refine sX ?_);refine mS ?_;clear hM;intro W hM)|((with_reducible refine bX ?_);refine mB ?_;clear hM;intro g W hM)|((with_reducible refine zX ?_);refine mB ?_;clear hM;intro g W hM))
  all_goals
   go_ret;exact⟨rfl,hM.below⟩
 have A0:=fun W=>Gv cx cy r f s 0 ax ay ha W
 have A1:=fun W=>Gv cx cy r f s (zq cx cy r f s) bx b_y hb W
 rw[ha]at PA;rw[hb]at PB;rw[Bool.true_and,if_neg jL];obtain⟨D,hD⟩:∃D,zk ax ay bx b_y=D:=⟨_,rfl⟩;rw[hD]at DI;rw[hD];clear ha hb hD;rcases c with _|_
 ·rw[if_neg jL];clear TV TL A0 A1;by_cases hz:cx=0∧cy=0∧r=0∧f=0∧s=0
  ·obtain⟨rfl,rfl,rfl,rfl,rfl⟩:=hz;rw[if_neg jL];by_cases h1:L<1
   ·rw[if_pos (.inl h1)];go_enter Tryz.func65,Tryz.ntmps65;go_wp2_with(first|(go_at_call 31;(first|(with_reducible refine cb hM (PA _) ?_)|(with_reducible refine cb hM (PB _) ?_));clear hM;intro W1 hM)|(go_at_call 40;(first|(with_reducible refine cb hM (DI _) ?_));clear hM;intro W1 hM)|(go_at_call 66;(first|(with_reducible refine cb hM (TV _) ?_));clear hM;intro W1 hM)|(go_at_call 41;(first|(with_reducible refine cb hM (TL _) ?_));clear hM;intro W1 hM)|((with_reducible refine lX ?_);refine mL ?_)|((with_reducible refine sX ?_);refine mS ?_;clear hM;intro W hM)|((with_reducible refine bX ?_);refine mB ?_;clear hM;intro g W hM)|((with_reducible refine zX ?_);refine mB ?_;clear hM;intro g W hM))
    all_goals
     go_ret;exact⟨rfl,hM.below⟩
   ·by_cases h2:L=D
    ·rw[if_neg (by rintro(h|h);exact h1 h;exact h h2)];have h3:(L !=D)=false:=by simpa using h2
     clear h2;go_enter Tryz.func65,Tryz.ntmps65;go_wp2_with(first|(go_at_call 31;(first|(with_reducible refine cb hM (PA _) ?_)|(with_reducible refine cb hM (PB _) ?_));clear hM;intro W1 hM)|(go_at_call 40;(first|(with_reducible refine cb hM (DI _) ?_));clear hM;intro W1 hM)|(go_at_call 66;(first|(with_reducible refine cb hM (TV _) ?_));clear hM;intro W1 hM)|(go_at_call 41;(first|(with_reducible refine cb hM (TL _) ?_));clear hM;intro W1 hM)|((with_reducible refine lX ?_);refine mL ?_)|((with_reducible refine sX ?_);refine mS ?_;clear hM;intro W hM)|((with_reducible refine bX ?_);refine mB ?_;clear hM;intro g W hM)|((with_reducible refine zX ?_);refine mB ?_;clear hM;intro g W hM))
     all_goals
      go_ret;exact⟨rfl,hM.below⟩
    ·rw[if_pos (.inr h2)];have h3:(L !=D)=true:=by simpa using h2
     clear h2;go_enter Tryz.func65,Tryz.ntmps65;go_wp2_with(first|(go_at_call 31;(first|(with_reducible refine cb hM (PA _) ?_)|(with_reducible refine cb hM (PB _) ?_));clear hM;intro W1 hM)|(go_at_call 40;(first|(with_reducible refine cb hM (DI _) ?_));clear hM;intro W1 hM)|(go_at_call 66;(first|(with_reducible refine cb hM (TV _) ?_));clear hM;intro W1 hM)|(go_at_call 41;(first|(with_reducible refine cb hM (TL _) ?_));clear hM;intro W1 hM)|((with_reducible refine lX ?_);refine mL ?_)|((with_reducible refine sX ?_);refine mS ?_;clear hM;intro W hM)|((with_reducible refine bX ?_);refine mB ?_;clear hM;intro g W hM)|((with_reducible refine zX ?_);refine mB ?_;clear hM;intro g W hM))
     all_goals
      go_ret;exact⟨rfl,hM.below⟩
  ·rw[if_pos hz]
   have hcs:(cx==0)=false∨((cx==0)=true∧(cy==0)=false)∨((cx==0)=true∧(cy==0)=true∧(r==0)=false)∨((cx==0)=true∧(cy==0)=true∧(r==0)=true∧(f==0)=false)∨((cx==0)=true∧(cy==0)=true∧(r==0)=true∧(f==0)=true∧(s==0)=false):=by
    by_cases z1:cx=0
    ·by_cases z2:cy=0
     ·by_cases z3:r=0
      ·by_cases z4:f=0
       ·have z5:¬s=0:=fun z5=>hz ⟨z1,z2,z3,z4,z5⟩
        exact .inr (.inr (.inr (.inr ⟨by simpa using z1,by simpa using z2,by simpa using z3,by simpa using z4,by simpa using z5⟩)))
       ·exact .inr (.inr (.inr (.inl ⟨by simpa using z1,by simpa using z2,by simpa using z3,by simpa using z4⟩)))
      ·exact .inr (.inr (.inl ⟨by simpa using z1,by simpa using z2,by simpa using z3⟩))
     ·exact .inr (.inl ⟨by simpa using z1,by simpa using z2⟩)
    ·exact .inl (by simpa using z1)
   clear hz;rcases hcs with z1|⟨z1,z2⟩|⟨z1,z2,z3⟩|⟨z1,z2,z3,z4⟩|⟨z1,z2,z3,z4,z5⟩
   all_goals(
    go_enter Tryz.func65,Tryz.ntmps65;go_wp2_with(first|(go_at_call 31;(first|(with_reducible refine cb hM (PA _) ?_)|(with_reducible refine cb hM (PB _) ?_));clear hM;intro W1 hM)|(go_at_call 40;(first|(with_reducible refine cb hM (DI _) ?_));clear hM;intro W1 hM)|(go_at_call 66;(first|(with_reducible refine cb hM (TV _) ?_));clear hM;intro W1 hM)|(go_at_call 41;(first|(with_reducible refine cb hM (TL _) ?_));clear hM;intro W1 hM)|((with_reducible refine lX ?_);refine mL ?_)|((with_reducible refine sX ?_);refine mS ?_;clear hM;intro W hM)|((with_reducible refine bX ?_);refine mB ?_;clear hM;intro g W hM)|((with_reducible refine zX ?_);refine mB ?_;clear hM;intro g W hM))
    all_goals
     go_ret;exact⟨rfl,hM.below⟩
    )
 ·rw[if_pos jL];rcases hB:xz cx cy r f s with _|_
  ·rw[hB]at TV;rw[if_pos jL];clear hB;go_enter Tryz.func65,Tryz.ntmps65;go_wp2_with(first|(go_at_call 31;(first|(with_reducible refine cb hM (PA _) ?_)|(with_reducible refine cb hM (PB _) ?_));clear hM;intro W1 hM)|(go_at_call 40;(first|(with_reducible refine cb hM (DI _) ?_));clear hM;intro W1 hM)|(go_at_call 66;(first|(with_reducible refine cb hM (TV _) ?_));clear hM;intro W1 hM)|(go_at_call 41;(first|(with_reducible refine cb hM (TL _) ?_));clear hM;intro W1 hM)|((with_reducible refine lX ?_);refine mL ?_)|((with_reducible refine sX ?_);refine mS ?_;clear hM;intro W hM)|((with_reducible refine bX ?_);refine mB ?_;clear hM;intro g W hM)|((with_reducible refine zX ?_);refine mB ?_;clear hM;intro g W hM))
   all_goals
    go_ret;exact⟨rfl,hM.below⟩
  rw[hB]at TV;rw[if_neg jL];obtain⟨n1,hn⟩:∃n1,zq cx cy r f s=n1:=⟨_,rfl⟩;rw[hn]at TL A1;rw[hn];clear hB hn;by_cases h1:L<1
  ·rw[if_pos (.inl h1)];go_enter Tryz.func65,Tryz.ntmps65;go_wp2_with(first|(go_at_call 31;(first|(with_reducible refine cb hM (PA _) ?_)|(with_reducible refine cb hM (PB _) ?_));clear hM;intro W1 hM)|(go_at_call 40;(first|(with_reducible refine cb hM (DI _) ?_));clear hM;intro W1 hM)|(go_at_call 66;(first|(with_reducible refine cb hM (TV _) ?_));clear hM;intro W1 hM)|(go_at_call 41;(first|(with_reducible refine cb hM (TL _) ?_));clear hM;intro W1 hM)|((with_reducible refine lX ?_);refine mL ?_)|((with_reducible refine sX ?_);refine mS ?_;clear hM;intro W hM)|((with_reducible refine bX ?_);refine mB ?_;clear hM;intro g W hM)|((with_reducible refine zX ?_);refine mB ?_;clear hM;intro g W hM))
   all_goals
    go_ret;exact⟨rfl,hM.below⟩
  by_cases h2:L=n1;rotate_left 1
  ·rw[if_pos (.inr h2)];have h3:(L !=n1)=true:=by simpa using h2
   clear h2;go_enter Tryz.func65,Tryz.ntmps65;go_wp2_with(first|(go_at_call 31;(first|(with_reducible refine cb hM (PA _) ?_)|(with_reducible refine cb hM (PB _) ?_));clear hM;intro W1 hM)|(go_at_call 40;(first|(with_reducible refine cb hM (DI _) ?_));clear hM;intro W1 hM)|(go_at_call 66;(first|(with_reducible refine cb hM (TV _) ?_));clear hM;intro W1 hM)|(go_at_call 41;(first|(with_reducible refine cb hM (TL _) ?_));clear hM;intro W1 hM)|((with_reducible refine lX ?_);refine mL ?_)|((with_reducible refine sX ?_);refine mS ?_;clear hM;intro W hM)|((with_reducible refine bX ?_);refine mB ?_;clear hM;intro g W hM)|((with_reducible refine zX ?_);refine mB ?_;clear hM;intro g W hM))
   all_goals
    go_ret;exact⟨rfl,hM.below⟩
  rw[if_neg (by rintro(h|h);exact h1 h;exact h h2)];have h3:(L !=n1)=false:=by simpa using h2
  clear h2;obtain⟨b0,hb0⟩:∃b,ZI cx cy r f s 0 ax ay=b:=⟨_,rfl⟩;obtain⟨b1,hb1⟩:∃b,ZI cx cy r f s n1 bx b_y=b:=⟨_,rfl⟩;rw[hb0]at A0;rw[hb1]at A1;rw[hb0,hb1];clear hb0 hb1;rcases b0 with _|_
  ·rcases b1 with _|_
   ·rw[if_neg jL];go_enter Tryz.func65,Tryz.ntmps65;go_wp2_with(first|(go_at_call 31;(first|(with_reducible refine cb hM (PA _) ?_)|(with_reducible refine cb hM (PB _) ?_));clear hM;intro W1 hM)|(go_at_call 40;(first|(with_reducible refine cb hM (DI _) ?_));clear hM;intro W1 hM)|(go_at_call 66;(first|(with_reducible refine cb hM (TV _) ?_));clear hM;intro W1 hM)|(go_at_call 41;(first|(with_reducible refine cb hM (TL _) ?_));clear hM;intro W1 hM)|(go_at_call 143;(first|(with_reducible refine cb hM (A0 _) ?_)|(with_reducible refine cb hM (A1 _) ?_));clear hM;intro W1 hM)|((with_reducible refine lX ?_);refine mL ?_)|((with_reducible refine sX ?_);refine mS ?_;clear hM;intro W hM)|((with_reducible refine bX ?_);refine mB ?_;clear hM;intro g W hM)|((with_reducible refine zX ?_);refine mB ?_;clear hM;intro g W hM))
    all_goals
     go_ret;exact⟨rfl,hM.below⟩
   ·rw[if_pos jL];go_enter Tryz.func65,Tryz.ntmps65;go_wp2_with(first|(go_at_call 31;(first|(with_reducible refine cb hM (PA _) ?_)|(with_reducible refine cb hM (PB _) ?_));clear hM;intro W1 hM)|(go_at_call 40;(first|(with_reducible refine cb hM (DI _) ?_));clear hM;intro W1 hM)|(go_at_call 66;(first|(with_reducible refine cb hM (TV _) ?_));clear hM;intro W1 hM)|(go_at_call 41;(first|(with_reducible refine cb hM (TL _) ?_));clear hM;intro W1 hM)|(go_at_call 143;(first|(with_reducible refine cb hM (A0 _) ?_)|(with_reducible refine cb hM (A1 _) ?_));clear hM;intro W1 hM)|((with_reducible refine lX ?_);refine mL ?_)|((with_reducible refine sX ?_);refine mS ?_;clear hM;intro W hM)|((with_reducible refine bX ?_);refine mB ?_;clear hM;intro g W hM)|((with_reducible refine zX ?_);refine mB ?_;clear hM;intro g W hM))
    all_goals
     go_ret;exact⟨rfl,hM.below⟩
  ·rw[if_pos jL];go_enter Tryz.func65,Tryz.ntmps65;go_wp2_with(first|(go_at_call 31;(first|(with_reducible refine cb hM (PA _) ?_)|(with_reducible refine cb hM (PB _) ?_));clear hM;intro W1 hM)|(go_at_call 40;(first|(with_reducible refine cb hM (DI _) ?_));clear hM;intro W1 hM)|(go_at_call 66;(first|(with_reducible refine cb hM (TV _) ?_));clear hM;intro W1 hM)|(go_at_call 41;(first|(with_reducible refine cb hM (TL _) ?_));clear hM;intro W1 hM)|(go_at_call 143;(first|(with_reducible refine cb hM (A0 _) ?_)|(with_reducible refine cb hM (A1 _) ?_));clear hM;intro W1 hM)|((with_reducible refine lX ?_);refine mL ?_)|((with_reducible refine sX ?_);refine mS ?_;clear hM;intro W hM)|((with_reducible refine bX ?_);refine mB ?_;clear hM;intro g W hM)|((with_reducible refine zX ?_);refine mB ?_;clear hM;intro g W hM))
   all_goals
    go_ret;exact⟨rfl,hM.below⟩
theorem Ll{w W:World}{L:List qZ}(h:qF w W L):∃V,V=W:=⟨W,rfl⟩
theorem VQ{w:World}{b o:Nat}{x:El}(h:fK w b o x):∀(j:Nat) (v:Value),x.cells[j]? =some v→w.cell? ⟨b,o+j,none⟩=some v:=by
 intro j v hj;have hj2:j<13:=(List.getElem?_eq_some_iff.1 hj).1;obtain⟨h0,h1,h2,h3,h4,h5,h6,h7,h8,h9,h10,h11,h12⟩:=h;obtain rfl|rfl|rfl|rfl|rfl|rfl|rfl|rfl|rfl|rfl|rfl|rfl|rfl:j=0∨j=1∨j=2∨j=3∨j=4∨j=5∨j=6∨j=7∨j=8∨j=9∨j=10∨j=11∨j=12:=qg
 all_goals
  injection hj with hj;subst hj;assumption
set_option maxRecDepth 100000 in
set_option maxHeartbeats 8000000 in
theorem lj(S:Option Addr)(l:List El)(cap:Nat)(len:Int)(w:World)(h2:l.length≤9223372036854775807)(hp:Hid (uW w S l)):
 Calls Tryz.prog 23 #[.agg #[.slice S l.length cap,Iv len]] w fun e w'=>e= .returned (Iv (gk l len))∧Below w.heap.size w w':=by
 by_cases h5:500<l.length
 ·have HR:Hid (gk l len=3):=hide (by unfold gk;rw[if_pos h5]);rw[HR.out];have k1:(500:Int)<l.length:=qg;have hM:=qo w;go_enter Tryz.func23,Tryz.ntmps23;go_wp2_with(first|(refine qe ?_;clear hM;intro g W hM))
  all_goals
   go_ret;exact⟨rfl,hM.below⟩
 have H0:Hid (QY len true 0 0 0 0 l=gk l len):=hide (by unfold gk;rw[if_neg h5]);obtain⟨R,hR⟩:∃R,gk l len=R:=⟨_,rfl⟩;rw[hR]at H0⊢;clear hR;have k1:¬(500:Int)<l.length:=qg;have hM:=qo w;go_enter Tryz.func23,Tryz.ntmps23;go_upto_region 1 with(first|(refine qe ?_;clear hM;intro g W hM));obtain⟨gp,rfl⟩:=uC hM;refine qj ?_;go_wp2_with(first|(refine qe ?_;clear hM;intro g W hM));go_loopw [3,4,15] (fun s3 s4 s15 wx=>∃(j:Nat) (en px py sum:Int),j≤l.length∧s3=Iv sum∧s4=Iv en∧s15=Iv j∧Hid (QY len (decide (j=0)) en px py sum (l.drop j)=R)∧Hid (∀(i:Nat) (u:El),j=i+1→l[i]? =some u→px=u.bx∧py=u.b_y)∧(0≤sum∧sum≤60000000*j)∧qF w wx [(gp,[.slice S l.length cap,Iv len],46)]) (fun _ _ i _=>l.length-(intOf i).toNat)
 case atStart=>exact⟨0,0,0,0,0,Nat.zero_le _,rfl,rfl,rfl,H0,hide (fun i u hi=>by omega),⟨qg,qg⟩,hM⟩
 case round=>
  clear hM H0;obtain⟨j,en,px,py,sum,hj,rfl,rfl,rfl,G,Y,hs,hM⟩:=hrel;by_cases hlt:j<l.length
  ·obtain⟨x,hx⟩:∃x,l[j]? =some x:=⟨_,List.getElem?_eq_getElem hlt⟩;obtain⟨b,o,rfl,hel⟩:=hp.out j x hx;have HXA:=hide (VQ hel);have HX:=hide hx
   have G2:Hid ((if¬x.err=0 then x.err else if x.n<en∨(decide (j=0)=true∧x.g=true)then 9 else if decide (j=0)=false∧x.g=false∧¬(x.ax=px∧x.ay=py)then 10 else QY len false x.n x.bx x.b_y (sum+x.L) (l.drop (j+1)))=R):=hide (by
    have h:=G.out;obtain⟨h1,h2⟩:=List.getElem?_eq_some_iff.1 hx;rw[List.drop_eq_getElem_cons h1,h2,Zw]at h
    exact h)
   have EC:=fun g W=>li x.c g x.ax x.ay x.bx x.b_y x.cx x.cy x.r x.f x.s x.L x.n W
   obtain⟨E,hE⟩:∃E,ZJ x.c x.ax x.ay x.bx x.b_y x.cx x.cy x.r x.f x.s x.L=E:=⟨_,rfl⟩;rw[hE]at EC;have HE:Hid (x.err=E):=hide hE;clear hel hx G;go_upto_region 7 with(first|((with_reducible refine lX ?_);refine yL hM rfl (by first|exact rfl|(go_simp;done)) rfl (Zg rfl) HXA.out (bQ rfl) ?_)|(refine qe ?_;clear hM;intro g W hM));obtain⟨gx,rfl⟩:=uC hM;refine qj ?_;by_cases e0:E=0;rotate_left 1
   ·have HR:=hide (show E=R by rw[←G2.out,HE.out,if_pos e0]);have e1:(E !=0)=true:=by simpa using e0
    clear G2 Y e0;go_wp2_with(first|(refine qe ?_;clear hM;intro g W hM)|(refine qt (EC _ _) ?_;clear hM;intro W1 hM))
    all_goals
     go_ret;exact⟨by first|rfl|(rw[←HR.out];rfl)|(rw[HR.out];rfl)|(rw[HR.out]),hM.below⟩
   ·subst e0;have hb:=WI hE;clear hE
    have G3:Hid ((if x.n<en∨(decide (j=0)=true∧x.g=true)then 9 else if decide (j=0)=false∧x.g=false∧¬(x.ax=px∧x.ay=py)then 10 else QY len false x.n x.bx x.b_y (sum+x.L) (l.drop (j+1)))=R):=hide (by
     have h:=G2.out;rw[HE.out,if_neg jL]at h
     exact h)
    clear G2;by_cases a1:x.n<en
    ·have HR:=hide (show(9:Int)=R by rw[←G3.out,if_pos (.inl a1)]);clear G3 Y;go_wp2_with(first|(refine qe ?_;clear hM;intro g W hM)|(refine qt (EC _ _) ?_;clear hM;intro W1 hM))
     all_goals
      go_ret;exact⟨by first|rfl|(rw[←HR.out];rfl)|(rw[←HR.out]),hM.below⟩
    have HA1:=hide a1;obtain⟨xg,hxg⟩:∃b,x.g=b:=⟨_,rfl⟩;rw[hxg]at hM G3;have HXG:=hide hxg;clear hxg;by_cases h0:j=0
    ·have e1:((j:Int)==0)=true:=by simp[h0]
     have HJ0:=hide h0;rcases xg with _|_;rotate_left 1
     ·have HR:=hide (show(9:Int)=R by rw[←G3.out,if_pos (.inr ⟨decide_eq_true h0,rfl⟩)]);clear G3 Y h0;go_wp2_with(first|(refine qe ?_;clear hM;intro g W hM)|(refine qt (EC _ _) ?_;clear hM;intro W1 hM))
      all_goals
       go_ret;exact⟨by first|rfl|(rw[←HR.out];rfl)|(rw[←HR.out]),hM.below⟩
     ·have HN:Hid (QY len (decide (j+1=0)) x.n x.bx x.b_y (sum+x.L) (l.drop (j+1))=R):=hide (by
       have h:=G3.out;rw[if_neg (by rintro(h|h);(have:=HA1.out;omega);cases h.2),if_neg (by rintro⟨h,_⟩;rw[decide_eq_true h0]at h;cases h)]at h
       exact h)
      clear G3 Y h0;have w1:=IntWalk.i64_in (sum+x.L) qg;go_upto_region 12 with(first|(refine qe ?_;clear hM;intro g W hM)|(refine qt (EC _ _) ?_;clear hM;intro W1 hM));refine qj ?_;go_cut [55] (fun s wx=>s= .bool false∧qF w wx [(gx,[.bool x.c,Iv x.ax,Iv x.ay,Iv x.bx,Iv x.b_y,Iv x.cx,Iv x.cy,Iv x.r,Iv x.f,Iv x.s,Iv x.L,Iv x.n,.bool false],53),(gp,[.slice (some ⟨b,o,none⟩) l.length cap,Iv len],46)])
      case first=>
       obtain rfl:j=0:=HJ0.out
       try simp only[Int.natCast_zero,Int.ofNat_zero,Int.cast_ofNat_Int]
       go_quiet (fail)
       all_goals
        go_wp2_with fail
        all_goals
         go_meet;exact⟨by first|rfl|(simp;done),by first|exact hM|exact qJ hM|exact zA hM _|exact qJ (qJ hM)⟩
      case rest=>
      clear hM;obtain⟨rfl,hM⟩:=hcut;go_wp2_with(first|(refine qe ?_;clear hM;intro g W hM))
      all_goals
       (go_roundw
        case rel=>exact⟨j+1,x.n,x.bx,x.b_y,sum+x.L,by omega,rfl,rfl,by go_num,HN,hide (fun i u hi hu=>by
         obtain rfl:i=j:=qg;rw[HX.out]at hu;injection hu with hu;subst hu
         exact⟨rfl,rfl⟩),⟨qg,qg⟩,qC hM⟩
        case measure=>simp[intOf];omega)
    ·obtain⟨i,rfl⟩:∃i,j=i+1:=⟨j-1,qg⟩;obtain⟨u,hu⟩:∃u,l[i]? =some u:=⟨_,List.getElem?_eq_getElem qg⟩;have hy:=Y.out i u rfl hu;obtain⟨b2,o2,he2,hel2⟩:=hp.out i u hu;injection he2 with he2;injection he2 with ea eb;subst ea eb;have HUA:=hide (VQ hel2);clear hu hel2 Y h0;have e1:((i:Int)+1==0)=false:=by simp;omega
     have iw:IntKind.i64.wrap ((i:Int)+1-1)=i:=by rw[show(i:Int)+1-1=i by omega];exact IntWalk.i64_in _ qg
     have k3:decide ((0:Int)<(i:Int)+1)=true:=decide_eq_true qg;have k2:(i:Int)<(l.length:Int):=qg;have w1:=IntWalk.i64_in (sum+x.L) qg;go_upto_region 12 with(first|(refine qe ?_;clear hM;intro g W hM)|(refine qt (EC _ _) ?_;clear hM;intro W1 hM));refine qj ?_;rcases xg with _|_
     ·by_cases hm:x.ax=u.bx∧x.ay=u.b_y
      ·have HN:Hid (QY len (decide (i+1+1=0)) x.n x.bx x.b_y (sum+x.L) (l.drop (i+1+1))=R):=hide (by
        have h:=G3.out;rw[if_neg (by rintro(h|h);(have:=HA1.out;omega);cases h.2),if_neg (by rintro⟨_,_,h⟩;exact h (by rw[hy.1,hy.2];exact hm))]at h
        exact h)
       have HM:=hide hm;clear G3 hy hm;go_cut [55] (fun s wx=>s= .bool false∧qF w wx [(gx,[.bool x.c,Iv x.ax,Iv x.ay,Iv x.bx,Iv x.b_y,Iv x.cx,Iv x.cy,Iv x.r,Iv x.f,Iv x.s,Iv x.L,Iv x.n,.bool false],53),(gp,[.slice (some ⟨b,o,none⟩) l.length cap,Iv len],46)])
       case first=>
        obtain⟨W1,rfl⟩:=Ll hM;have c12:W1.cell? ⟨gx,12,none⟩=some (.bool false):=hM.cell Lk.head 12;have c1:W1.cell? ⟨gx,1,none⟩=some (Iv u.bx):=by rw[←HM.out.1];exact hM.cell Lk.head 1
        have c2:W1.cell? ⟨gx,2,none⟩=some (Iv u.b_y):=by rw[←HM.out.2];exact hM.cell Lk.head 2
        have q0:W1.cell? ⟨gp,0,none⟩=some (.slice (some ⟨b,o,none⟩) l.length cap):=hM.cell (Lk.tail Lk.head) 0;have r3:W1.cell? ⟨b,o+i*13+3,none⟩=some (Iv u.bx):=hM.old (HUA.out 3 _ rfl);have r4:W1.cell? ⟨b,o+i*13+4,none⟩=some (Iv u.b_y):=hM.old (HUA.out 4 _ rfl);go_quiet (fail)
        all_goals
         go_wp2_with fail
         all_goals
          go_meet;exact⟨by first|rfl|(simp;done),by first|exact hM|exact qJ hM|exact zA hM _|exact qJ (qJ hM)⟩
       case rest=>
       clear hM;obtain⟨rfl,hM⟩:=hcut;go_wp2_with(first|(refine qe ?_;clear hM;intro g W hM))
       all_goals
        (go_roundw
         case rel=>exact⟨i+1+1,x.n,x.bx,x.b_y,sum+x.L,by omega,rfl,rfl,by go_num,HN,hide (fun i_1 u hi hu=>by
          obtain rfl:i_1=i+1:=qg;rw[HX.out]at hu;injection hu with hu;subst hu
          exact⟨rfl,rfl⟩),⟨qg,qg⟩,qC hM⟩
         case measure=>simp[intOf];omega)
      ·have HR:=hide (show(10:Int)=R by
        rw[←G3.out,if_neg (by rintro(h|h);(have:=HA1.out;omega);cases h.2),if_pos ⟨jL,rfl,by rw[hy.1,hy.2];exact hm⟩])
       have hcs:(x.ax==u.bx)=false∨(x.ax=u.bx∧(x.ay==u.b_y)=false):=by
        by_cases z1:x.ax=u.bx
        ·exact .inr ⟨z1,beq_eq_false_iff_ne.2 fun z2=>hm ⟨z1,z2⟩⟩
        ·exact .inl (beq_eq_false_iff_ne.2 z1)
       clear G3 hy hm;go_cut [55] (fun s wx=>s= .bool true∧qF w wx [(gx,[.bool x.c,Iv x.ax,Iv x.ay,Iv x.bx,Iv x.b_y,Iv x.cx,Iv x.cy,Iv x.r,Iv x.f,Iv x.s,Iv x.L,Iv x.n,.bool false],53),(gp,[.slice (some ⟨b,o,none⟩) l.length cap,Iv len],46)])
       case first=>
        obtain⟨W1,rfl⟩:=Ll hM;have c12:W1.cell? ⟨gx,12,none⟩=some (.bool false):=hM.cell Lk.head 12;have c1:W1.cell? ⟨gx,1,none⟩=some (Iv x.ax):=hM.cell Lk.head 1;have c2:W1.cell? ⟨gx,2,none⟩=some (Iv x.ay):=hM.cell Lk.head 2;have q0:W1.cell? ⟨gp,0,none⟩=some (.slice (some ⟨b,o,none⟩) l.length cap):=hM.cell (Lk.tail Lk.head) 0;have r3:W1.cell? ⟨b,o+i*13+3,none⟩=some (Iv u.bx):=hM.old (HUA.out 3 _ rfl);have r4:W1.cell? ⟨b,o+i*13+4,none⟩=some (Iv u.b_y):=hM.old (HUA.out 4 _ rfl);rcases hcs with z1|⟨z1,z2⟩;rotate_left 1
        ·rw[z1]at c1;go_quiet (fail)
         all_goals
          go_wp2_with fail
          all_goals
           go_meet;exact⟨by first|rfl|(simp;done),by first|exact hM|exact qJ hM|exact zA hM _|exact qJ (qJ hM)⟩
        ·go_quiet (fail)
         all_goals
          go_wp2_with fail
          all_goals
           go_meet;exact⟨by first|rfl|(simp;done),by first|exact hM|exact qJ hM|exact zA hM _|exact qJ (qJ hM)⟩
       case rest=>
       clear hM;obtain⟨rfl,hM⟩:=hcut;go_wp2_with(first|(refine qe ?_;clear hM;intro g W hM))
       all_goals
        go_ret;exact⟨by first|rfl|(rw[←HR.out];rfl)|(rw[←HR.out]),hM.below⟩
     ·have HN:Hid (QY len (decide (i+1+1=0)) x.n x.bx x.b_y (sum+x.L) (l.drop (i+1+1))=R):=hide (by
       have h:=G3.out;rw[if_neg (by rintro(h|h);(have:=HA1.out;omega);cases(show decide (i+1=0)=true from h.1)),if_neg (by rintro⟨_,h,_⟩;cases h)]at h
       exact h)
      clear G3 hy;go_cut [55] (fun s wx=>s= .bool false∧qF w wx [(gx,[.bool x.c,Iv x.ax,Iv x.ay,Iv x.bx,Iv x.b_y,Iv x.cx,Iv x.cy,Iv x.r,Iv x.f,Iv x.s,Iv x.L,Iv x.n,.bool true],53),(gp,[.slice (some ⟨b,o,none⟩) l.length cap,Iv len],46)])
      case first=>
       obtain⟨W1,rfl⟩:=Ll hM;have c12:W1.cell? ⟨gx,12,none⟩=some (.bool true):=hM.cell Lk.head 12;go_quiet (fail)
       all_goals
        go_wp2_with fail
        all_goals
         go_meet;exact⟨by first|rfl|(simp;done),by first|exact hM|exact qJ hM|exact zA hM _|exact qJ (qJ hM)⟩
      case rest=>
      clear hM;obtain⟨rfl,hM⟩:=hcut;go_wp2_with(first|(refine qe ?_;clear hM;intro g W hM))
      all_goals
       (go_roundw
        case rel=>exact⟨i+1+1,x.n,x.bx,x.b_y,sum+x.L,by omega,rfl,rfl,by go_num,HN,hide (fun i_1 u hi hu=>by
         obtain rfl:i_1=i+1:=qg;rw[HX.out]at hu;injection hu with hu;subst hu
         exact⟨rfl,rfl⟩),⟨qg,qg⟩,qC hM⟩
        case measure=>simp[intOf];omega)
  ·have hje:j=l.length:=qg;have G2:=hide (show(if len=sum then(0:Int)else 4)=R by rw[←G.out,hje,List.drop_length,TC]);clear G Y hje;by_cases hq:len=sum
   ·have HR:=hide (show(0:Int)=R by rw[←G2.out,if_pos hq]);have q1:(len !=sum)=false:=by simpa using hq
    clear hq G2;go_wp2_with(first|(refine qe ?_;clear hM;intro g W hM))
    all_goals
     go_ret;exact⟨by first|rfl|(rw[←HR.out];rfl)|(rw[←HR.out]),hM.below⟩
   ·have HR:=hide (show(4:Int)=R by rw[←G2.out,if_neg hq]);have q1:(len !=sum)=true:=by simpa using hq
    clear hq G2;go_wp2_with(first|(refine qe ?_;clear hM;intro g W hM))
    all_goals
     go_ret;exact⟨by first|rfl|(rw[←HR.out];rfl)|(rw[←HR.out]),hM.below⟩
theorem Jz(S:Option Addr)(l:List El)(cap:Nat)(len:Int)(w:World)(h2:l.length≤9223372036854775807)(hp:Hid (uW w S l)):
 Calls Tryz.prog 23 #[.agg #[.slice S l.length cap,Iv len]] w fun e w'=>e= .returned (Iv (gk l len))∧Below w.heap.size w w':=lj S l cap len w h2 hp
theorem Md(S:Option Addr)(l:List El)(cap:Nat)(len t:Int)(w:World)(h2:l.length≤9223372036854775807)(hp:Hid (uW w S l))(E:Int)(hc:gk l len=E)(h:¬E=0):
 Calls Tryz.prog 8 #[.agg #[.slice S l.length cap,Iv len],Iv t] w fun e w'=>e= .returned (.tuple #[.agg #[Iv 0,Iv 0],Iv 0,Iv E])∧Below w.heap.size w w':=by
 have CK:=fun W hb=>Jz S l cap len W h2 (hide (kQ hb hp.out))
 rw[hc]at CK;clear hc;have T:(E !=0)=true:=bne_iff_ne.2 h;go_enter Tryz.func8,Tryz.ntmps8;go_wp2_with fail;refine(CK _ zMPatA0).mono ?_;rintro e w1 ⟨rfl,hb1⟩
 obtain⟨f1,f2⟩:w1.cell? ⟨w.heap.size,0,none⟩=some (.slice S l.length cap)∧w1.cell? ⟨w.heap.size,1,none⟩=some (Iv len):=by
  refine⟨?_,?_⟩<;>(refine qi hb1 ?_;repeat(first|(with_reducible assumption)|((with_reducible refine zr ?_ ?_ _);(·first|(simp;done)|(simp;omega)|omega))|((with_reducible refine zf ?_ ?_);(·(simp;done));(·rfl))|(with_reducible refine qR ?_ _)|(with_reducible refine qX ?_)|(with_reducible refine qV ?_ _)|(with_reducible refine qi qY ?_)))
 have zf1:w.heap.size<w1.heap.size:=World.block_lt_of_cell? _ _ f1
 obtain⟨⟨m3a,m3b⟩,⟨m4a,m4b⟩⟩:(w1.cell? ⟨w.heap.size+1,0,none⟩=some (jZ w1 ⟨w.heap.size+1,0,none⟩)∧w1.frozen? ⟨w.heap.size+1,0,none⟩=false)∧(w1.cell? ⟨w.heap.size+1,1,none⟩=some (jZ w1 ⟨w.heap.size+1,1,none⟩)∧w1.frozen? ⟨w.heap.size+1,1,none⟩=false):=by
  refine⟨?_,?_⟩<;>(refine qI hb1 (jI (v:=Iv 0) ?_ ?_)<;>simp[go_sem])
 have zm3:w.heap.size+1<w1.heap.size:=World.block_lt_of_cell? _ _ m3a;go_wp2_with fail
 all_goals
  exact bodyPost_ret (v:= .tuple #[.agg #[Iv 0,Iv 0],Iv 0,Iv E]) (by simp[results,Tryz.results8,go_sem, *]) rfl ⟨rfl,by(repeat(with_reducible (first|assumption|exact Below.refl _ _|refine Below.drew ?_|refine below_drewN ?_ _|refine qK ?_ (by simp;try omega) _|refine qu ?_ (Nat.le_refl _) _|refine qH qY ?_)))⟩
theorem FM(S:Option Addr)(l:List El)(cap:Nat)(len t:Int)(w:World)(h2:l.length≤9223372036854775807)(hp:Hid (uW w S l))(hc:gk l len=0)(h:t<0):
 Calls Tryz.prog 8 #[.agg #[.slice S l.length cap,Iv len],Iv t] w fun e w'=>e= .returned (.tuple #[.agg #[Iv 0,Iv 0],Iv 0,Iv 2])∧Below w.heap.size w w':=by
 have CK:=fun W hb=>Jz S l cap len W h2 (hide (kQ hb hp.out))
 rw[hc]at CK;clear hc;go_enter Tryz.func8,Tryz.ntmps8;go_wp2_with fail;refine(CK _ zMPatA0).mono ?_;rintro e w1 ⟨rfl,hb1⟩
 obtain⟨f1,f2⟩:w1.cell? ⟨w.heap.size,0,none⟩=some (.slice S l.length cap)∧w1.cell? ⟨w.heap.size,1,none⟩=some (Iv len):=by
  refine⟨?_,?_⟩<;>(refine qi hb1 ?_;repeat(first|(with_reducible assumption)|((with_reducible refine zr ?_ ?_ _);(·first|(simp;done)|(simp;omega)|omega))|((with_reducible refine zf ?_ ?_);(·(simp;done));(·rfl))|(with_reducible refine qR ?_ _)|(with_reducible refine qX ?_)|(with_reducible refine qV ?_ _)|(with_reducible refine qi qY ?_)))
 have zf1:w.heap.size<w1.heap.size:=World.block_lt_of_cell? _ _ f1
 obtain⟨⟨m3a,m3b⟩,⟨m4a,m4b⟩⟩:(w1.cell? ⟨w.heap.size+1,0,none⟩=some (jZ w1 ⟨w.heap.size+1,0,none⟩)∧w1.frozen? ⟨w.heap.size+1,0,none⟩=false)∧(w1.cell? ⟨w.heap.size+1,1,none⟩=some (jZ w1 ⟨w.heap.size+1,1,none⟩)∧w1.frozen? ⟨w.heap.size+1,1,none⟩=false):=by
  refine⟨?_,?_⟩<;>(refine qI hb1 (jI (v:=Iv 0) ?_ ?_)<;>simp[go_sem])
 have zm3:w.heap.size+1<w1.heap.size:=World.block_lt_of_cell? _ _ m3a;go_wp2_with fail
 all_goals
  exact bodyPost_ret (v:= .tuple #[.agg #[Iv 0,Iv 0],Iv 0,Iv 2]) (by simp[results,Tryz.results8,go_sem, *]) rfl ⟨rfl,by(repeat(with_reducible (first|assumption|exact Below.refl _ _|refine Below.drew ?_|refine below_drewN ?_ _|refine qK ?_ (by simp;try omega) _|refine qu ?_ (Nat.le_refl _) _|refine qH qY ?_)))⟩
theorem FN(S:Option Addr)(l:List El)(cap:Nat)(len t:Int)(w:World)(h2:l.length≤9223372036854775807)(hp:Hid (uW w S l))(hc:gk l len=0)(h0:0≤t)(h:len<t):
 Calls Tryz.prog 8 #[.agg #[.slice S l.length cap,Iv len],Iv t] w fun e w'=>e= .returned (.tuple #[.agg #[Iv 0,Iv 0],Iv 0,Iv 2])∧Below w.heap.size w w':=by
 have CK:=fun W hb=>Jz S l cap len W h2 (hide (kQ hb hp.out))
 rw[hc]at CK;clear hc;go_enter Tryz.func8,Tryz.ntmps8;go_wp2_with fail;refine(CK _ zMPatA0).mono ?_;rintro e w1 ⟨rfl,hb1⟩
 obtain⟨f1,f2⟩:w1.cell? ⟨w.heap.size,0,none⟩=some (.slice S l.length cap)∧w1.cell? ⟨w.heap.size,1,none⟩=some (Iv len):=by
  refine⟨?_,?_⟩<;>(refine qi hb1 ?_;repeat(first|(with_reducible assumption)|((with_reducible refine zr ?_ ?_ _);(·first|(simp;done)|(simp;omega)|omega))|((with_reducible refine zf ?_ ?_);(·(simp;done));(·rfl))|(with_reducible refine qR ?_ _)|(with_reducible refine qX ?_)|(with_reducible refine qV ?_ _)|(with_reducible refine qi qY ?_)))
 have zf1:w.heap.size<w1.heap.size:=World.block_lt_of_cell? _ _ f1
 obtain⟨⟨m3a,m3b⟩,⟨m4a,m4b⟩⟩:(w1.cell? ⟨w.heap.size+1,0,none⟩=some (jZ w1 ⟨w.heap.size+1,0,none⟩)∧w1.frozen? ⟨w.heap.size+1,0,none⟩=false)∧(w1.cell? ⟨w.heap.size+1,1,none⟩=some (jZ w1 ⟨w.heap.size+1,1,none⟩)∧w1.frozen? ⟨w.heap.size+1,1,none⟩=false):=by
  refine⟨?_,?_⟩<;>(refine qI hb1 (jI (v:=Iv 0) ?_ ?_)<;>simp[go_sem])
 have zm3:w.heap.size+1<w1.heap.size:=World.block_lt_of_cell? _ _ m3a;go_wp2_with fail
 all_goals
  exact bodyPost_ret (v:= .tuple #[.agg #[Iv 0,Iv 0],Iv 0,Iv 2]) (by simp[results,Tryz.results8,go_sem, *]) rfl ⟨rfl,by(repeat(with_reducible (first|assumption|exact Below.refl _ _|refine Below.drew ?_|refine below_drewN ?_ _|refine qK ?_ (by simp;try omega) _|refine qu ?_ (Nat.le_refl _) _|refine qH qY ?_)))⟩
theorem ll(S:Option Addr)(l:List El)(cap:Nat)(len t:Int)(w:World)(h2:l.length≤9223372036854775807)(hp:Hid (uW w S l))(hc:gk l len=0)(h0:0≤t)(h:t≤len)(hl:l.length=0):
 Calls Tryz.prog 8 #[.agg #[.slice S l.length cap,Iv len],Iv t] w fun e w'=>e= .returned (.tuple #[.agg #[Iv 0,Iv 0],Iv 0,Iv 6])∧Below w.heap.size w w':=by
 have CK:=fun W hb=>Jz S l cap len W h2 (hide (kQ hb hp.out))
 rw[hc]at CK;clear hc;have T0:((l.length:Int)==0)=true:=by rw[hl];rfl
 clear hl;go_enter Tryz.func8,Tryz.ntmps8;go_wp2_with fail;refine(CK _ zMPatA0).mono ?_;rintro e w1 ⟨rfl,hb1⟩
 obtain⟨f1,f2⟩:w1.cell? ⟨w.heap.size,0,none⟩=some (.slice S l.length cap)∧w1.cell? ⟨w.heap.size,1,none⟩=some (Iv len):=by
  refine⟨?_,?_⟩<;>(refine qi hb1 ?_;repeat(first|(with_reducible assumption)|((with_reducible refine zr ?_ ?_ _);(·first|(simp;done)|(simp;omega)|omega))|((with_reducible refine zf ?_ ?_);(·(simp;done));(·rfl))|(with_reducible refine qR ?_ _)|(with_reducible refine qX ?_)|(with_reducible refine qV ?_ _)|(with_reducible refine qi qY ?_)))
 have zf1:w.heap.size<w1.heap.size:=World.block_lt_of_cell? _ _ f1
 obtain⟨⟨m3a,m3b⟩,⟨m4a,m4b⟩⟩:(w1.cell? ⟨w.heap.size+1,0,none⟩=some (jZ w1 ⟨w.heap.size+1,0,none⟩)∧w1.frozen? ⟨w.heap.size+1,0,none⟩=false)∧(w1.cell? ⟨w.heap.size+1,1,none⟩=some (jZ w1 ⟨w.heap.size+1,1,none⟩)∧w1.frozen? ⟨w.heap.size+1,1,none⟩=false):=by
  refine⟨?_,?_⟩<;>(refine qI hb1 (jI (v:=Iv 0) ?_ ?_)<;>simp[go_sem])
 have zm3:w.heap.size+1<w1.heap.size:=World.block_lt_of_cell? _ _ m3a;go_wp2_with fail
 all_goals
  exact bodyPost_ret (v:= .tuple #[.agg #[Iv 0,Iv 0],Iv 0,Iv 6]) (by simp[results,Tryz.results8,go_sem, *]) rfl ⟨rfl,by(repeat(with_reducible (first|assumption|exact Below.refl _ _|refine Below.drew ?_|refine below_drewN ?_ _|refine qK ?_ (by simp;try omega) _|refine qu ?_ (Nat.le_refl _) _|refine qH qY ?_)))⟩
theorem lm(b o:Nat)(l:List El)(cap:Nat)(len t:Int)(w:World)(h2:l.length≤9223372036854775807)(hp:Hid (uW w (some ⟨b,o,none⟩) l))(hc:gk l len=0)(h0:0≤t)(h1:t≤len)(T:El×Int)(hT:bF l t=some T)(R:Int×Int×Int×Int)(hR:R=Eu T.1 T.2):
 Calls Tryz.prog 8 #[.agg #[.slice (some ⟨b,o,none⟩) l.length cap,Iv len],Iv t] w fun e w'=>e= .returned (.tuple #[.agg #[Iv R.1,Iv R.2.1],Iv R.2.2.1,Iv R.2.2.2])∧Below w.heap.size w w':=by
 have CK:=fun W hb=>Jz (some ⟨b,o,none⟩) l cap len W h2 (hide (kQ hb hp.out))
 rw[hc]at CK;have l5:=(YE hc).short;have eL:=hide (fun j y (hy:l[j]? =some y)=>nS hc hy);have eV:=hide (fun j y (hy:l[j]? =some y)=>(YE hc).err j y hy);have hlen:=De hc
 have l0:0<l.length:=by
  rcases Nat.eq_zero_or_pos l.length with h|h
  ·rw[List.length_eq_zero_iff]at h;rw[h]at hT;cases hT
  ·exact h
 have H0:Hid (bF (l.drop 0) t=some T):=hide hT;have HR:=hide hR;clear hT hR hc;go_enter Tryz.func8,Tryz.ntmps8;go_wp2_with fail;refine(CK _ zMPatA0).mono ?_;rintro e w1 ⟨rfl,hb1⟩
 obtain⟨f1,f2⟩:w1.cell? ⟨w.heap.size,0,none⟩=some (.slice (some ⟨b,o,none⟩) l.length cap)∧w1.cell? ⟨w.heap.size,1,none⟩=some (Iv len):=by
  refine⟨?_,?_⟩<;>(refine qi hb1 ?_;repeat(first|(with_reducible assumption)|((with_reducible refine zr ?_ ?_ _);(·first|(simp;done)|(simp;omega)|omega))|((with_reducible refine zf ?_ ?_);(·(simp;done));(·rfl))|(with_reducible refine qR ?_ _)|(with_reducible refine qX ?_)|(with_reducible refine qV ?_ _)|(with_reducible refine qi qY ?_)))
 have zf1:w.heap.size<w1.heap.size:=World.block_lt_of_cell? _ _ f1
 obtain⟨⟨m3a,m3b⟩,⟨m4a,m4b⟩⟩:(w1.cell? ⟨w.heap.size+1,0,none⟩=some (jZ w1 ⟨w.heap.size+1,0,none⟩)∧w1.frozen? ⟨w.heap.size+1,0,none⟩=false)∧(w1.cell? ⟨w.heap.size+1,1,none⟩=some (jZ w1 ⟨w.heap.size+1,1,none⟩)∧w1.frozen? ⟨w.heap.size+1,1,none⟩=false):=by
  refine⟨?_,?_⟩<;>(refine qI hb1 (jI (v:=Iv 0) ?_ ?_)<;>simp[go_sem])
 have zm3:w.heap.size+1<w1.heap.size:=World.block_lt_of_cell? _ _ m3a;go_wp2_with fail;go_loopw [1,8] (fun a u W=>∃(k:Nat) (q:Int),k<l.length∧a=Iv q∧u=Iv (k:Int)∧Hid (bF (l.drop k) q=some T)∧0≤q∧q≤len∧W.cell? ⟨w.heap.size,0,none⟩=some (.slice (some ⟨b,o,none⟩) l.length cap)∧W.cell? ⟨w.heap.size,1,none⟩=some (Iv len)∧(W.cell? ⟨w.heap.size+1,0,none⟩=some (jZ W ⟨w.heap.size+1,0,none⟩)∧W.frozen? ⟨w.heap.size+1,0,none⟩=false)∧(W.cell? ⟨w.heap.size+1,1,none⟩=some (jZ W ⟨w.heap.size+1,1,none⟩)∧W.frozen? ⟨w.heap.size+1,1,none⟩=false)∧Below w.heap.size w W) (fun a u _=>l.length-(intOf u).toNat)
 case atStart=>exact⟨0,t,l0,rfl,rfl,H0,h0,h1,f1,f2,⟨m3a,m3b⟩,⟨m4a,m4b⟩,by(repeat(with_reducible (first|assumption|exact Below.refl _ _|refine Below.drew ?_|refine below_drewN ?_ _|refine qK ?_ (by simp;try omega) _|refine qu ?_ (Nat.le_refl _) _|refine qH qY ?_)))⟩
 case round=>
  obtain⟨k,q,hk,rfl,rfl,G,q0,q1,p0,p1,⟨m0a,m0b⟩,⟨m1a,m1b⟩,K⟩:=hrel;obtain⟨x,hx⟩:∃x,l[k]? =some x:=⟨_,List.getElem?_eq_getElem hk⟩;have hG:=G.out;rw[TD hx]at hG;have xL:=eL.out k x hx;have xE:=eV.out k x hx;have hat:=wG (kQ K hp.out) hx;clear hx G;obtain⟨c,ax,ay,bx,b_y,cx,cy,r,f,s,L,n,g⟩:=x;dsimp only at hG xL;have c0:wr.cell? ⟨b,o+k*13,none⟩=some (.bool c):=hat.1;have c1:wr.cell? ⟨b,o+k*13+1,none⟩=some (Iv ax):=hat.2.1;have c2:wr.cell? ⟨b,o+k*13+2,none⟩=some (Iv ay):=hat.2.2.1;have c3:wr.cell? ⟨b,o+k*13+3,none⟩=some (Iv bx):=hat.2.2.2.1;have c4:wr.cell? ⟨b,o+k*13+4,none⟩=some (Iv b_y):=hat.2.2.2.2.1;have c5:wr.cell? ⟨b,o+k*13+5,none⟩=some (Iv cx):=hat.2.2.2.2.2.1;have c6:wr.cell? ⟨b,o+k*13+6,none⟩=some (Iv cy):=hat.2.2.2.2.2.2.1;have c7:wr.cell? ⟨b,o+k*13+7,none⟩=some (Iv r):=hat.2.2.2.2.2.2.2.1;have c8:wr.cell? ⟨b,o+k*13+8,none⟩=some (Iv f):=hat.2.2.2.2.2.2.2.2.1;have c9:wr.cell? ⟨b,o+k*13+9,none⟩=some (Iv s):=hat.2.2.2.2.2.2.2.2.2.1;have c10:wr.cell? ⟨b,o+k*13+10,none⟩=some (Iv L):=hat.2.2.2.2.2.2.2.2.2.2.1;have c11:wr.cell? ⟨b,o+k*13+11,none⟩=some (Iv n):=hat.2.2.2.2.2.2.2.2.2.2.2.1;have c12:wr.cell? ⟨b,o+k*13+12,none⟩=some (.bool g):=hat.2.2.2.2.2.2.2.2.2.2.2.2;clear hat;have zc:b<wr.heap.size:=World.block_lt_of_cell? _ _ c0;have zp:w.heap.size<wr.heap.size:=World.block_lt_of_cell? _ _ p0;have zm:w.heap.size+1<wr.heap.size:=World.block_lt_of_cell? _ _ m0a;by_cases hs:L<q
  ·rw[if_pos hs]at hG;have G2:=hide hG;clear hG xE
   have hk2:k+1<l.length:=by
    rcases Nat.lt_or_ge (k+1) l.length with h|h
    ·exact h
    ·have:=G2.out;rw[nU h]at this;cases this
   go_wp2_with fail;go_roundw
   case rel=>exact⟨k+1,q-L,hk2,by go_num,by go_num,G2,by omega,by omega,p0,p1,⟨m0a,m0b⟩,⟨m1a,m1b⟩,by(repeat(with_reducible (first|assumption|exact Below.refl _ _|refine Below.drew ?_|refine below_drewN ?_ _|refine qK ?_ (by simp;try omega) _|refine qu ?_ (Nat.le_refl _) _|refine qH qY ?_)))⟩
   case measure=>simp[intOf];omega
  ·rw[if_neg hs]at hG;obtain rfl:((⟨c,ax,ay,bx,b_y,cx,cy,r,f,s,L,n,g⟩:El),q)=T:=by injection hG
   have hv:=xE;unfold El.err at hv;dsimp only at hv;clear hG xE;rcases c with _|_
   ·skip;obtain⟨V1,V2,V3,V4,V5⟩:=ZK hv;have hR:R=(ax+(qL 2 (bx-ax) q L).1,ay+(qL 2 (b_y-ay) q L).1,(qO ax ay bx b_y).1,(qO ax ay bx b_y).2):=HR.out;have B1:=JX V1;have B2:=JX V2;have U1:=Co (d:=bx-ax) qg q0 qg xL.1 xL.2;have U2:=Co (d:=b_y-ay) qg q0 qg xL.1 xL.2;have MX:=fun W=>vZ (bx-ax) q L (by constructor<;>omega) (by constructor<;>omega) (by constructor<;>omega) W
    have MY:=fun W=>vZ (b_y-ay) q L (by constructor<;>omega) (by constructor<;>omega) (by constructor<;>omega) W
    have CO:=fun W=>yF ax ay bx b_y W
    clear HR hv V1 V2 V3 V4 V5;generalize qL 2 (bx-ax) q L=X at*;generalize qL 2 (b_y-ay) q L=Y at*;generalize qO ax ay bx b_y=C at*;obtain⟨X,xe⟩:=X;obtain⟨Y,ye⟩:=Y;obtain⟨C,ce⟩:=C;dsimp only at U1 U2 hR;subst hR;go_wp2_with fail;refine(MX _).mono ?_;rintro e w2 ⟨rfl,n1,rfl⟩;go_wp2_with fail;refine(MY _).mono ?_;rintro e w3 ⟨rfl,n2,rfl⟩;go_wp2_with fail;refine(CO _).mono ?_;rintro e w5 ⟨rfl,hb5⟩
    obtain⟨f11,f12,f13,f14,f15,f16,f17,f18,f19,f20,f21,f22,f23⟩:w5.cell? ⟨wr.heap.size,0,none⟩=some (.bool false)∧w5.cell? ⟨wr.heap.size,1,none⟩=some (Iv ax)∧w5.cell? ⟨wr.heap.size,2,none⟩=some (Iv ay)∧w5.cell? ⟨wr.heap.size,3,none⟩=some (Iv bx)∧w5.cell? ⟨wr.heap.size,4,none⟩=some (Iv b_y)∧w5.cell? ⟨wr.heap.size,5,none⟩=some (Iv cx)∧w5.cell? ⟨wr.heap.size,6,none⟩=some (Iv cy)∧w5.cell? ⟨wr.heap.size,7,none⟩=some (Iv r)∧w5.cell? ⟨wr.heap.size,8,none⟩=some (Iv f)∧w5.cell? ⟨wr.heap.size,9,none⟩=some (Iv s)∧w5.cell? ⟨wr.heap.size,10,none⟩=some (Iv L)∧w5.cell? ⟨wr.heap.size,11,none⟩=some (Iv n)∧w5.cell? ⟨wr.heap.size,12,none⟩=some (.bool g):=by
     refine⟨?_,?_,?_,?_,?_,?_,?_,?_,?_,?_,?_,?_,?_⟩<;>(refine qi hb5 ?_;repeat(first|(with_reducible assumption)|((with_reducible refine zr ?_ ?_ _);(·first|(simp;done)|(simp;omega)|omega))|((with_reducible refine zf ?_ ?_);(·(simp;done));(·rfl))|(with_reducible refine qR ?_ _)|(with_reducible refine qX ?_)|(with_reducible refine qV ?_ _)|(with_reducible refine qi qY ?_)))
    have zf11:wr.heap.size<w5.heap.size:=World.block_lt_of_cell? _ _ f11
    obtain⟨⟨m24a,m24b⟩,⟨m25a,m25b⟩⟩:(w5.cell? ⟨w.heap.size+1,0,none⟩=some (jZ w5 ⟨w.heap.size+1,0,none⟩)∧w5.frozen? ⟨w.heap.size+1,0,none⟩=false)∧(w5.cell? ⟨w.heap.size+1,1,none⟩=some (jZ w5 ⟨w.heap.size+1,1,none⟩)∧w5.frozen? ⟨w.heap.size+1,1,none⟩=false):=by
     refine⟨?_,?_⟩<;>(refine qI hb5 ?_;repeat(first|(refine⟨?_,?_⟩<;>(with_reducible assumption))|(with_reducible refine yo ?_ _)|(with_reducible refine uf ?_ _ _)|(with_reducible refine km ?_)|(with_reducible refine vp ?_ _)|(with_reducible refine qI qY ?_)))
    have zm24:w.heap.size+1<w5.heap.size:=World.block_lt_of_cell? _ _ m24a;clear m0a m0b m1a m1b;go_wp2_with fail;exact bodyPost_ret (v:= .tuple #[.agg #[Iv (ax+X),Iv (ay+Y)],Iv C,Iv ce]) (by simp[results,Tryz.results8,go_sem, *]) rfl ⟨rfl,by(repeat(with_reducible (first|assumption|exact Below.refl _ _|refine Below.drew ?_|refine below_drewN ?_ _|refine qK ?_ (by simp;try omega) _|refine qu ?_ (Nat.le_refl _) _|refine qH qY ?_)))⟩
   ·skip;have hR:R=jJ cx cy r f s q:=HR.out;have AA:=fun W=>tI cx cy r f s q W R hR
    clear HR hR hv;go_wp2_with fail;refine(AA _).mono ?_;rintro e w5 ⟨rfl,hb5⟩
    obtain⟨⟨m41a,m41b⟩,⟨m42a,m42b⟩⟩:(w5.cell? ⟨w.heap.size+1,0,none⟩=some (jZ w5 ⟨w.heap.size+1,0,none⟩)∧w5.frozen? ⟨w.heap.size+1,0,none⟩=false)∧(w5.cell? ⟨w.heap.size+1,1,none⟩=some (jZ w5 ⟨w.heap.size+1,1,none⟩)∧w5.frozen? ⟨w.heap.size+1,1,none⟩=false):=by
     refine⟨?_,?_⟩<;>(refine qI hb5 ?_;repeat(first|(refine⟨?_,?_⟩<;>(with_reducible assumption))|(with_reducible refine yo ?_ _)|(with_reducible refine uf ?_ _ _)|(with_reducible refine km ?_)|(with_reducible refine vp ?_ _)|(with_reducible refine qI qY ?_)))
    have zm41:w.heap.size+1<w5.heap.size:=World.block_lt_of_cell? _ _ m41a;clear m0a m0b m1a m1b;go_wp2_with fail;exact bodyPost_ret (v:= .tuple #[.agg #[Iv R.1,Iv R.2.1],Iv R.2.2.1,Iv R.2.2.2]) (by simp[results,Tryz.results8,go_sem, *]) rfl ⟨rfl,by(repeat(with_reducible (first|assumption|exact Below.refl _ _|refine Below.drew ?_|refine below_drewN ?_ _|refine qK ?_ (by simp;try omega) _|refine qu ?_ (Nat.le_refl _) _|refine qH qY ?_)))⟩
theorem Me(S:Option Addr)(l:List El)(cap:Nat)(len t:Int)(w:World)(h2:l.length≤9223372036854775807)(hp:Hid (uW w S l))(R:Int×Int×Int×Int)(hR:R=YW l len t):
 Calls Tryz.prog 8 #[.agg #[.slice S l.length cap,Iv len],Iv t] w fun e w'=>e= .returned (.tuple #[.agg #[Iv R.1,Iv R.2.1],Iv R.2.2.1,Iv R.2.2.2])∧Below w.heap.size w w':=by
 unfold YW at hR;by_cases hc:gk l len=0
 ·rw[if_neg (by simp[hc])]at hR;by_cases ho:t<0∨len<t
  ·rw[if_pos ho]at hR;subst hR;by_cases h0:t<0
   ·exact FM S l cap len t w h2 hp hc h0
   ·exact FN S l cap len t w h2 hp hc qg qg
  ·rw[if_neg ho]at hR;by_cases hl:l.length=0
   ·have hn:l=[]:=List.length_eq_zero_iff.1 hl;have:bF l t=none:=by rw[hn];rfl
    rw[this]at hR;subst hR;exact ll S l cap len t w h2 hp hc qg qg hl
   ·obtain⟨T,hT⟩:=nT (l:=l) (s:=t) (fun h=>hl (by rw[h];rfl)) (by rw[←(YE hc).sum];omega);rw[hT]at hR;obtain⟨b,o,rfl⟩:=Gg hp.out qg;exact lm b o l cap len t w h2 hp hc qg qg T hT R hR
 ·rw[if_pos hc]at hR;subst hR;exact Md S l cap len t w h2 hp _ rfl hc
end Go.Proofs.YtiegohjobhehcaaGreatDoor
