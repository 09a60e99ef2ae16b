/-
  Resolve for all arguments.
-/
import Derived.Test.YtiegohjobhehcaaGreatDoorMResE1
namespace Go.Proofs.YtiegohjobhehcaaGreatDoor
open Go.RowKit
set_option linter.unusedVariables false
set_option linter.unusedSimpArgs false
set_option maxRecDepth 100000 in
set_option maxHeartbeats 8000000 in
theorem Tr(fx fy c alt:Int)(x y:En)(spd bank oalt gr:Int)(hx:xI x)(hy:xI y)(ha:qz alt)(hc:qz c)(w:World)(hu:Hid (yE w)):
 Calls Tryz.prog 34 #[.agg #[Iv fx,Iv fy],Iv c,Iv alt,.agg x.cells.toArray,.agg y.cells.toArray,.agg #[Iv spd,Iv bank,Iv oalt,Iv gr]] w fun e w'=>e= .returned (.tuple #[.agg (qB fx fy c alt x y spd bank oalt gr).1.cells.toArray,Iv (qB fx fy c alt x y spd bank oalt gr).2])∧Below w.heap.size w w':=by
 have CH:=fun W=>yg spd bank oalt gr W
 have LC:=fun W hW=>jf x hx.leg W hW
 by_cases hO:kJ spd bank oalt gr=0
 ·rw[hO]at CH;have ho:=ku hO;obtain⟨_,_,_,hg1,hg2⟩:=ho;rcases hG:x.gap with _|_
  ·by_cases hL:jW x=0
   ·rw[hL]at LC;have hkk:=kr hL;rcases v1:qw fx fy with _|_
    ·(
     have HT:Hid (qB fx fy c alt x y spd bank oalt gr=(Tk.zero,1)):=hide (by unfold qB;rw[if_neg (by rw[hO];simp),if_neg (by rw[hG];simp),if_neg (by rw[hL];simp)];rw[if_pos (by rw[v1];simp)]);have P1:=fun W=>qE fx fy W
     rw[v1]at P1;clear hO hL hkk v1;have hM:=qo w;go_enter Tryz.func34,Tryz.ntmps34;go_wp2_with(first|(refine qe ?_;clear hM;intro g W hM)|(go_at_call 30;refine cb hM (CH _) ?_;clear hM;intro W1 hM)|(go_at_call 81;(refine(LC _ (hide (qP hM hu.out))).mono ?_);rintro e W1 ⟨rfl,hb⟩;replace hM:=qD hM hb;clear hb)|(refine qt (P1 _) ?_;clear hM;intro W1 hM))
     all_goals first
      |(exact absurd (show x.gap=true by assumption) (Bool.eq_false_iff.1 hG))
      |(exact absurd hG (show¬x.gap=true by assumption))|(exact absurd hG (Bool.eq_false_iff.1 (show x.gap=false by assumption)))
      |(refine' qU hM rfl rfl Tryz.isAgg91 Tryz.sizeOf91 rfl rfl ?_ ?_ ⟨?_,hM.below⟩;rotate_left 2;(·repeat constructor);(·rfl);(·refine' jo ?_ ?_;rotate_left 1;(·exact HT.out);(·rfl)))
     )
    rcases v2:qw x.ex x.ey with _|_
    ·(
     have HT:Hid (qB fx fy c alt x y spd bank oalt gr=(Tk.zero,1)):=hide (by unfold qB;rw[if_neg (by rw[hO];simp),if_neg (by rw[hG];simp),if_neg (by rw[hL];simp)];rw[if_pos (by rw[v1,v2];simp)]);have P1:=fun W=>qE fx fy W
     rw[v1]at P1;have P2:=fun W=>qE x.ex x.ey W
     rw[v2]at P2;clear hO hL hkk v1 v2;have hM:=qo w;go_enter Tryz.func34,Tryz.ntmps34;go_wp2_with(first|(refine qe ?_;clear hM;intro g W hM)|(go_at_call 30;refine cb hM (CH _) ?_;clear hM;intro W1 hM)|(go_at_call 81;(refine(LC _ (hide (qP hM hu.out))).mono ?_);rintro e W1 ⟨rfl,hb⟩;replace hM:=qD hM hb;clear hb)|(refine qt (P1 _) ?_;clear hM;intro W1 hM)|(refine qt (P2 _) ?_;clear hM;intro W1 hM))
     all_goals first
      |(exact absurd (show x.gap=true by assumption) (Bool.eq_false_iff.1 hG))
      |(exact absurd hG (show¬x.gap=true by assumption))|(exact absurd hG (Bool.eq_false_iff.1 (show x.gap=false by assumption)))
      |(refine' qU hM rfl rfl Tryz.isAgg91 Tryz.sizeOf91 rfl rfl ?_ ?_ ⟨?_,hM.below⟩;rotate_left 2;(·repeat constructor);(·rfl);(·refine' jo ?_ ?_;rotate_left 1;(·exact HT.out);(·rfl)))
     )
    rcases v3:qw x.mx x.my with _|_
    ·(
     have HT:Hid (qB fx fy c alt x y spd bank oalt gr=(Tk.zero,1)):=hide (by unfold qB;rw[if_neg (by rw[hO];simp),if_neg (by rw[hG];simp),if_neg (by rw[hL];simp)];rw[if_pos (by rw[v1,v2,v3];simp)]);have P1:=fun W=>qE fx fy W
     rw[v1]at P1;have P2:=fun W=>qE x.ex x.ey W
     rw[v2]at P2;have P3:=fun W=>qE x.mx x.my W
     rw[v3]at P3;clear hO hL hkk v1 v2 v3;have hM:=qo w;go_enter Tryz.func34,Tryz.ntmps34;go_wp2_with(first|(refine qe ?_;clear hM;intro g W hM)|(go_at_call 30;refine cb hM (CH _) ?_;clear hM;intro W1 hM)|(go_at_call 81;(refine(LC _ (hide (qP hM hu.out))).mono ?_);rintro e W1 ⟨rfl,hb⟩;replace hM:=qD hM hb;clear hb)|(refine qt (P1 _) ?_;clear hM;intro W1 hM)|(refine qt (P2 _) ?_;clear hM;intro W1 hM)|(refine qt (P3 _) ?_;clear hM;intro W1 hM))
     all_goals first
      |(exact absurd (show x.gap=true by assumption) (Bool.eq_false_iff.1 hG))
      |(exact absurd hG (show¬x.gap=true by assumption))|(exact absurd hG (Bool.eq_false_iff.1 (show x.gap=false by assumption)))
      |(refine' qU hM rfl rfl Tryz.isAgg91 Tryz.sizeOf91 rfl rfl ?_ ?_ ⟨?_,hM.below⟩;rotate_left 2;(·repeat constructor);(·rfl);(·refine' jo ?_ ?_;rotate_left 1;(·exact HT.out);(·rfl)))
     )
    by_cases hcr:0≤c∧c<129600000
    ·by_cases ha1:alt< -200000
     ·(
      have HT:Hid (qB fx fy c alt x y spd bank oalt gr=(Tk.zero,2)):=hide (by unfold qB;rw[if_neg (by rw[hO];simp),if_neg (by rw[hG];simp),if_neg (by rw[hL];simp)];rw[if_neg (by rw[v1,v2,v3];simp),if_pos qg]);have P1:=fun W=>qE fx fy W
      rw[v1]at P1;have P2:=fun W=>qE x.ex x.ey W
      rw[v2]at P2;have P3:=fun W=>qE x.mx x.my W
      rw[v3]at P3;have RC:=fun W=>zS c W
      rw[decide_eq_true hcr]at RC;clear hcr;clear hO hL hkk v1 v2 v3;have hM:=qo w;go_enter Tryz.func34,Tryz.ntmps34;go_wp2_with(first|(refine qe ?_;clear hM;intro g W hM)|(go_at_call 30;refine cb hM (CH _) ?_;clear hM;intro W1 hM)|(go_at_call 81;(refine(LC _ (hide (qP hM hu.out))).mono ?_);rintro e W1 ⟨rfl,hb⟩;replace hM:=qD hM hb;clear hb)|(refine qt (P1 _) ?_;clear hM;intro W1 hM)|(refine qt (P2 _) ?_;clear hM;intro W1 hM)|(refine qt (P3 _) ?_;clear hM;intro W1 hM)|refine qN (RC _) ?_)
      all_goals first
       |(exact absurd (show x.gap=true by assumption) (Bool.eq_false_iff.1 hG))
       |(exact absurd hG (show¬x.gap=true by assumption))|(exact absurd hG (Bool.eq_false_iff.1 (show x.gap=false by assumption)))
       |(refine' qU hM rfl rfl Tryz.isAgg91 Tryz.sizeOf91 rfl rfl ?_ ?_ ⟨?_,hM.below⟩;rotate_left 2;(·repeat constructor);(·rfl);(·refine' jo ?_ ?_;rotate_left 1;(·exact HT.out);(·rfl)))
      )
     ·by_cases ha2:alt>6000000
      ·(
       have HT:Hid (qB fx fy c alt x y spd bank oalt gr=(Tk.zero,2)):=hide (by unfold qB;rw[if_neg (by rw[hO];simp),if_neg (by rw[hG];simp),if_neg (by rw[hL];simp)];rw[if_neg (by rw[v1,v2,v3];simp),if_pos qg]);have P1:=fun W=>qE fx fy W
       rw[v1]at P1;have P2:=fun W=>qE x.ex x.ey W
       rw[v2]at P2;have P3:=fun W=>qE x.mx x.my W
       rw[v3]at P3;have RC:=fun W=>zS c W
       rw[decide_eq_true hcr]at RC;clear hcr;clear hO hL hkk v1 v2 v3;have hM:=qo w;go_enter Tryz.func34,Tryz.ntmps34;go_wp2_with(first|(refine qe ?_;clear hM;intro g W hM)|(go_at_call 30;refine cb hM (CH _) ?_;clear hM;intro W1 hM)|(go_at_call 81;(refine(LC _ (hide (qP hM hu.out))).mono ?_);rintro e W1 ⟨rfl,hb⟩;replace hM:=qD hM hb;clear hb)|(refine qt (P1 _) ?_;clear hM;intro W1 hM)|(refine qt (P2 _) ?_;clear hM;intro W1 hM)|(refine qt (P3 _) ?_;clear hM;intro W1 hM)|refine qN (RC _) ?_)
       all_goals first
        |(exact absurd (show x.gap=true by assumption) (Bool.eq_false_iff.1 hG))
        |(exact absurd hG (show¬x.gap=true by assumption))|(exact absurd hG (Bool.eq_false_iff.1 (show x.gap=false by assumption)))
        |(refine' qU hM rfl rfl Tryz.isAgg91 Tryz.sizeOf91 rfl rfl ?_ ?_ ⟨?_,hM.below⟩;rotate_left 2;(·repeat constructor);(·rfl);(·refine' jo ?_ ?_;rotate_left 1;(·exact HT.out);(·rfl)))
       )
      ·(
       obtain hk|hk|hk|hk|hk|hk|hk|hk|hk|hk|hk|hk|hk|hk|hk|hk|hk:x.ty=1∨x.ty=2∨x.ty=3∨x.ty=4∨x.ty=5∨x.ty=6∨x.ty=7∨x.ty=8∨x.ty=9∨x.ty=10∨x.ty=11∨x.ty=12∨x.ty=13∨x.ty=14∨x.ty=15∨x.ty=16∨x.ty=17:=qg
       ·exact pY fx fy c alt x y spd bank oalt gr hx hy w hu hG hO hL v1 v2 v3 hcr qg qg hk
       ·exact pZ fx fy c alt x y spd bank oalt gr hx hy w hu hG hO hL v1 v2 v3 hcr qg qg hk
       ·exact nn fx fy c alt x y spd bank oalt gr hx hy w hu hG hO hL v1 v2 v3 hcr qg qg hk
       ·exact ng fx fy c alt x y spd bank oalt gr hx hy w hu hG hO hL v1 v2 v3 hcr qg qg hk
       ·exact nu fx fy c alt x y spd bank oalt gr hx hy w hu hG hO hL v1 v2 v3 hcr qg qg hk
       ·exact nA fx fy c alt x y spd bank oalt gr hx hy w hu hG hO hL v1 v2 v3 hcr qg qg hk
       ·exact nB fx fy c alt x y spd bank oalt gr hx hy w hu hG hO hL v1 v2 v3 hcr qg qg hk
       ·exact nC fx fy c alt x y spd bank oalt gr hx hy w hu hG hO hL v1 v2 v3 hcr qg qg hk
       ·exact nD fx fy c alt x y spd bank oalt gr hx hy w hu hG hO hL v1 v2 v3 hcr qg qg hk
       ·exact Tl fx fy c alt x y spd bank oalt gr hx hy w hu hG hO hL v1 v2 v3 hcr qg qg hk
       ·exact Th fx fy c alt x y spd bank oalt gr hx hy w hu hG hO hL v1 v2 v3 hcr qg qg hk
       ·exact Ti fx fy c alt x y spd bank oalt gr hx hy w hu hG hO hL v1 v2 v3 hcr qg qg hk
       ·exact Tj fx fy c alt x y spd bank oalt gr hx hy w hu hG hO hL v1 v2 v3 hcr qg qg hk
       ·exact Tm fx fy c alt x y spd bank oalt gr hx hy w hu hG hO hL v1 v2 v3 hcr qg qg hk
       ·exact Tn fx fy c alt x y spd bank oalt gr hx hy w hu hG hO hL v1 v2 v3 hcr qg qg hk
       ·exact Tp fx fy c alt x y spd bank oalt gr hx hy w hu hG hO hL v1 v2 v3 hcr qg qg hk
       ·exact Tq fx fy c alt x y spd bank oalt gr hx hy w hu hG hO hL v1 v2 v3 hcr qg qg hk
       )
    ·(
     have HT:Hid (qB fx fy c alt x y spd bank oalt gr=(Tk.zero,2)):=hide (by unfold qB;rw[if_neg (by rw[hO];simp),if_neg (by rw[hG];simp),if_neg (by rw[hL];simp)];rw[if_neg (by rw[v1,v2,v3];simp),if_pos qg]);have P1:=fun W=>qE fx fy W
     rw[v1]at P1;have P2:=fun W=>qE x.ex x.ey W
     rw[v2]at P2;have P3:=fun W=>qE x.mx x.my W
     rw[v3]at P3;have RC:=fun W=>zS c W
     rw[decide_eq_false hcr]at RC;clear hcr;clear hO hL hkk v1 v2 v3;have hM:=qo w;go_enter Tryz.func34,Tryz.ntmps34;go_wp2_with(first|(refine qe ?_;clear hM;intro g W hM)|(go_at_call 30;refine cb hM (CH _) ?_;clear hM;intro W1 hM)|(go_at_call 81;(refine(LC _ (hide (qP hM hu.out))).mono ?_);rintro e W1 ⟨rfl,hb⟩;replace hM:=qD hM hb;clear hb)|(refine qt (P1 _) ?_;clear hM;intro W1 hM)|(refine qt (P2 _) ?_;clear hM;intro W1 hM)|(refine qt (P3 _) ?_;clear hM;intro W1 hM)|refine qN (RC _) ?_)
     all_goals first
      |(exact absurd (show x.gap=true by assumption) (Bool.eq_false_iff.1 hG))
      |(exact absurd hG (show¬x.gap=true by assumption))|(exact absurd hG (Bool.eq_false_iff.1 (show x.gap=false by assumption)))
      |(refine' qU hM rfl rfl Tryz.isAgg91 Tryz.sizeOf91 rfl rfl ?_ ?_ ⟨?_,hM.below⟩;rotate_left 2;(·repeat constructor);(·rfl);(·refine' jo ?_ ?_;rotate_left 1;(·exact HT.out);(·rfl)))
     )
   ·have HT:Hid (qB fx fy c alt x y spd bank oalt gr=(Tk.zero,jW x)):=hide (by unfold qB;rw[if_neg (by rw[hO];simp),if_neg (by rw[hG];simp),if_pos hL]);obtain⟨E0,hE⟩:∃E0,jW x=E0:=⟨_,rfl⟩;rw[hE]at LC HT hL;have hne:(E0 !=0)=true:=by simpa using hL
    clear hO hL hE;have hM:=qo w;go_enter Tryz.func34,Tryz.ntmps34;go_wp2_with(first|(refine qe ?_;clear hM;intro g W hM)|(go_at_call 30;refine cb hM (CH _) ?_;clear hM;intro W1 hM)|(go_at_call 81;(refine(LC _ (hide (qP hM hu.out))).mono ?_);rintro e W1 ⟨rfl,hb⟩;replace hM:=qD hM hb;clear hb))
    all_goals first
     |(exact absurd (show x.gap=true by assumption) (Bool.eq_false_iff.1 hG))
     |(exact absurd hG (show¬x.gap=true by assumption))|(exact absurd hG (Bool.eq_false_iff.1 (show x.gap=false by assumption)))
     |(refine' qU hM rfl rfl Tryz.isAgg91 Tryz.sizeOf91 rfl rfl ?_ ?_ ⟨?_,hM.below⟩;rotate_left 2;(·repeat constructor);(·rfl);(·refine' jo ?_ ?_;rotate_left 1;(·exact HT.out);(·rfl)))
  ·have HT:Hid (qB fx fy c alt x y spd bank oalt gr=(Tk.zero,17)):=hide (by unfold qB;rw[if_neg (by rw[hO];simp),if_pos hG]);clear hO;have hM:=qo w;go_enter Tryz.func34,Tryz.ntmps34;go_wp2_with(first|(refine qe ?_;clear hM;intro g W hM)|(go_at_call 30;refine cb hM (CH _) ?_;clear hM;intro W1 hM))
   all_goals first
    |(exact absurd (show x.gap=true by assumption) (Bool.eq_false_iff.1 hG))
    |(exact absurd hG (show¬x.gap=true by assumption))|(exact absurd hG (Bool.eq_false_iff.1 (show x.gap=false by assumption)))
    |(refine' qU hM rfl rfl Tryz.isAgg91 Tryz.sizeOf91 rfl rfl ?_ ?_ ⟨?_,hM.below⟩;rotate_left 2;(·repeat constructor);(·rfl);(·refine' jo ?_ ?_;rotate_left 1;(·exact HT.out);(·rfl)))
 ·have HT:Hid (qB fx fy c alt x y spd bank oalt gr=(Tk.zero,kJ spd bank oalt gr)):=hide (by unfold qB;rw[if_pos hO]);obtain⟨E0,hE⟩:∃E0,kJ spd bank oalt gr=E0:=⟨_,rfl⟩;rw[hE]at CH HT hO;have hne:(E0 !=0)=true:=by simpa using hO
  clear hO hE;have hM:=qo w;go_enter Tryz.func34,Tryz.ntmps34;go_wp2_with(first|(refine qe ?_;clear hM;intro g W hM)|(go_at_call 30;refine cb hM (CH _) ?_;clear hM;intro W1 hM))
  all_goals first
   |(exact absurd (show x.gap=true by assumption) (Bool.eq_false_iff.1 hG))
   |(exact absurd hG (show¬x.gap=true by assumption))|(exact absurd hG (Bool.eq_false_iff.1 (show x.gap=false by assumption)))
   |(refine' qU hM rfl rfl Tryz.isAgg91 Tryz.sizeOf91 rfl rfl ?_ ?_ ⟨?_,hM.below⟩;rotate_left 2;(·repeat constructor);(·rfl);(·refine' jo ?_ ?_;rotate_left 1;(·exact HT.out);(·rfl)))
end Go.Proofs.YtiegohjobhehcaaGreatDoor
