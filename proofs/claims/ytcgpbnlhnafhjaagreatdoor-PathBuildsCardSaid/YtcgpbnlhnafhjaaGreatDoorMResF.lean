/-
  Resolve for all arguments.
-/
import Derived.Test.YtcgpbnlhnafhjaaGreatDoorMResE1
import Derived.Test.YtcgpbnlhnafhjaaGreatDoorMRefE1
namespace Go.Proofs.YtcgpbnlhnafhjaaGreatDoor
open Go.RowKit
set_option linter.unusedVariables false
set_option linter.unusedSimpArgs false
theorem zMResF0{P:Prop}(h:P:=by refine' ze ?_ ?_;rotate_left 1;(·exact HT.out);(·rfl)):P:=h
set_option maxRecDepth 100000 in
set_option maxHeartbeats 8000000 in
theorem TC(fx fy c alt:Int)(x y:En)(spd bank oalt gr:Int)(hx:vT x)(hy:vT y)(ha:qK alt)(hc:qK c)(w:World)(hu:Hid (jP w)):
 Calls Tryz.prog 33 #[.agg #[Iv fx,Iv fy],Iv c,Iv alt,.agg x.cells.toArray,.agg y.cells.toArray,.agg #[Iv spd,Iv bank,Iv oalt,Iv gr]] w fun e w'=>e= .returned (.tuple #[.agg (qp fx fy c alt x y spd bank oalt gr).1.cells.toArray,Iv (qp fx fy c alt x y spd bank oalt gr).2])∧Below w.heap.size w w':=by
 have CH:=fun W=>jX spd bank oalt gr W
 have LC:=fun W hW=>je x hx.leg W hW
 by_cases hO:jY spd bank oalt gr=0
 ·rw[hO]at CH;have ho:=js hO;obtain⟨_,_,_,hg1,hg2⟩:=ho;rcases hG:x.gap with _|_
  ·by_cases hL:zU x=0
   ·rw[hL]at LC;have hkk:=jr hL;rcases v1:qw fx fy with _|_
    ·(
     have HT:Hid (qp fx fy c alt x y spd bank oalt gr=(Tk.zero,1)):=hide (by unfold qp;rw[if_neg (by rw[hO];simp),if_neg (by rw[hG];simp),if_neg (by rw[hL];simp)];rw[if_pos (by rw[v1];simp)]);have P1:=fun W=>qQ fx fy W
     rw[v1]at P1;clear hO hL hkk v1;have hM:=qE w;go_enter Tryz.func33,Tryz.ntmps33;go_wp2_with(first|(refine DU ?_;clear hM;intro g W hM)|(go_at_call 29;refine cb hM (CH _) ?_;clear hM;intro W1 hM)|(go_at_call 81;(refine(LC _ (hide (qV hM hu.out))).mono ?_);rintro e W1 ⟨rfl,hb⟩;replace hM:=qz hM hb;clear hb)|(refine qf (P1 _) ?_;clear hM;intro W1 hM))
     all_goals first
      |(exact absurd (show x.gap=true by assumption) (Bool.eq_false_iff.1 hG))
      |(exact absurd hG (show¬x.gap=true by assumption))|(exact absurd hG (Bool.eq_false_iff.1 (show x.gap=false by assumption)))
      |(refine' qO hM rfl rfl Tryz.isAgg67 Tryz.sizeOf67 rfl rfl ?_ ?_ ⟨?_,hM.below⟩;rotate_left 2;(·repeat constructor);(·rfl);(·exact zMResF0))
     )
    rcases v2:qw x.ex x.ey with _|_
    ·(
     have HT:Hid (qp fx fy c alt x y spd bank oalt gr=(Tk.zero,1)):=hide (by unfold qp;rw[if_neg (by rw[hO];simp),if_neg (by rw[hG];simp),if_neg (by rw[hL];simp)];rw[if_pos (by rw[v1,v2];simp)]);have P1:=fun W=>qQ fx fy W
     rw[v1]at P1;have P2:=fun W=>qQ x.ex x.ey W
     rw[v2]at P2;clear hO hL hkk v1 v2;have hM:=qE w;go_enter Tryz.func33,Tryz.ntmps33;go_wp2_with(first|(refine DU ?_;clear hM;intro g W hM)|(go_at_call 29;refine cb hM (CH _) ?_;clear hM;intro W1 hM)|(go_at_call 81;(refine(LC _ (hide (qV hM hu.out))).mono ?_);rintro e W1 ⟨rfl,hb⟩;replace hM:=qz hM hb;clear hb)|(refine qf (P1 _) ?_;clear hM;intro W1 hM)|(refine qf (P2 _) ?_;clear hM;intro W1 hM))
     all_goals first
      |(exact absurd (show x.gap=true by assumption) (Bool.eq_false_iff.1 hG))
      |(exact absurd hG (show¬x.gap=true by assumption))|(exact absurd hG (Bool.eq_false_iff.1 (show x.gap=false by assumption)))
      |(refine' qO hM rfl rfl Tryz.isAgg67 Tryz.sizeOf67 rfl rfl ?_ ?_ ⟨?_,hM.below⟩;rotate_left 2;(·repeat constructor);(·rfl);(·exact zMResF0))
     )
    rcases v3:qw x.mx x.my with _|_
    ·(
     have HT:Hid (qp fx fy c alt x y spd bank oalt gr=(Tk.zero,1)):=hide (by unfold qp;rw[if_neg (by rw[hO];simp),if_neg (by rw[hG];simp),if_neg (by rw[hL];simp)];rw[if_pos (by rw[v1,v2,v3];simp)]);have P1:=fun W=>qQ fx fy W
     rw[v1]at P1;have P2:=fun W=>qQ x.ex x.ey W
     rw[v2]at P2;have P3:=fun W=>qQ x.mx x.my W
     rw[v3]at P3;clear hO hL hkk v1 v2 v3;have hM:=qE w;go_enter Tryz.func33,Tryz.ntmps33;go_wp2_with(first|(refine DU ?_;clear hM;intro g W hM)|(go_at_call 29;refine cb hM (CH _) ?_;clear hM;intro W1 hM)|(go_at_call 81;(refine(LC _ (hide (qV hM hu.out))).mono ?_);rintro e W1 ⟨rfl,hb⟩;replace hM:=qz hM hb;clear hb)|(refine qf (P1 _) ?_;clear hM;intro W1 hM)|(refine qf (P2 _) ?_;clear hM;intro W1 hM)|(refine qf (P3 _) ?_;clear hM;intro W1 hM))
     all_goals first
      |(exact absurd (show x.gap=true by assumption) (Bool.eq_false_iff.1 hG))
      |(exact absurd hG (show¬x.gap=true by assumption))|(exact absurd hG (Bool.eq_false_iff.1 (show x.gap=false by assumption)))
      |(refine' qO hM rfl rfl Tryz.isAgg67 Tryz.sizeOf67 rfl rfl ?_ ?_ ⟨?_,hM.below⟩;rotate_left 2;(·repeat constructor);(·rfl);(·exact zMResF0))
     )
    by_cases hcr:0≤c∧c<129600000
    ·by_cases ha1:alt< -200000
     ·(
      have HT:Hid (qp fx fy c alt x y spd bank oalt gr=(Tk.zero,2)):=hide (by unfold qp;rw[if_neg (by rw[hO];simp),if_neg (by rw[hG];simp),if_neg (by rw[hL];simp)];rw[if_neg (by rw[v1,v2,v3];simp),if_pos DL]);have P1:=fun W=>qQ fx fy W
      rw[v1]at P1;have P2:=fun W=>qQ x.ex x.ey W
      rw[v2]at P2;have P3:=fun W=>qQ x.mx x.my W
      rw[v3]at P3;have RC:=fun W=>zY c W
      rw[decide_eq_true hcr]at RC;clear hcr;clear hO hL hkk v1 v2 v3;have hM:=qE w;go_enter Tryz.func33,Tryz.ntmps33;go_wp2_with(first|(refine DU ?_;clear hM;intro g W hM)|(go_at_call 29;refine cb hM (CH _) ?_;clear hM;intro W1 hM)|(go_at_call 81;(refine(LC _ (hide (qV hM hu.out))).mono ?_);rintro e W1 ⟨rfl,hb⟩;replace hM:=qz hM hb;clear hb)|(refine qf (P1 _) ?_;clear hM;intro W1 hM)|(refine qf (P2 _) ?_;clear hM;intro W1 hM)|(refine qf (P3 _) ?_;clear hM;intro W1 hM)|refine DG (RC _) ?_)
      all_goals first
       |(exact absurd (show x.gap=true by assumption) (Bool.eq_false_iff.1 hG))
       |(exact absurd hG (show¬x.gap=true by assumption))|(exact absurd hG (Bool.eq_false_iff.1 (show x.gap=false by assumption)))
       |(refine' qO hM rfl rfl Tryz.isAgg67 Tryz.sizeOf67 rfl rfl ?_ ?_ ⟨?_,hM.below⟩;rotate_left 2;(·repeat constructor);(·rfl);(·exact zMResF0))
      )
     ·by_cases ha2:alt>6000000
      ·(
       have HT:Hid (qp fx fy c alt x y spd bank oalt gr=(Tk.zero,2)):=hide (by unfold qp;rw[if_neg (by rw[hO];simp),if_neg (by rw[hG];simp),if_neg (by rw[hL];simp)];rw[if_neg (by rw[v1,v2,v3];simp),if_pos DL]);have P1:=fun W=>qQ fx fy W
       rw[v1]at P1;have P2:=fun W=>qQ x.ex x.ey W
       rw[v2]at P2;have P3:=fun W=>qQ x.mx x.my W
       rw[v3]at P3;have RC:=fun W=>zY c W
       rw[decide_eq_true hcr]at RC;clear hcr;clear hO hL hkk v1 v2 v3;have hM:=qE w;go_enter Tryz.func33,Tryz.ntmps33;go_wp2_with(first|(refine DU ?_;clear hM;intro g W hM)|(go_at_call 29;refine cb hM (CH _) ?_;clear hM;intro W1 hM)|(go_at_call 81;(refine(LC _ (hide (qV hM hu.out))).mono ?_);rintro e W1 ⟨rfl,hb⟩;replace hM:=qz hM hb;clear hb)|(refine qf (P1 _) ?_;clear hM;intro W1 hM)|(refine qf (P2 _) ?_;clear hM;intro W1 hM)|(refine qf (P3 _) ?_;clear hM;intro W1 hM)|refine DG (RC _) ?_)
       all_goals first
        |(exact absurd (show x.gap=true by assumption) (Bool.eq_false_iff.1 hG))
        |(exact absurd hG (show¬x.gap=true by assumption))|(exact absurd hG (Bool.eq_false_iff.1 (show x.gap=false by assumption)))
        |(refine' qO hM rfl rfl Tryz.isAgg67 Tryz.sizeOf67 rfl rfl ?_ ?_ ⟨?_,hM.below⟩;rotate_left 2;(·repeat constructor);(·rfl);(·exact zMResF0))
       )
      ·(
       obtain hk|hk|hk|hk|hk|hk|hk|hk|hk|hk|hk|hk|hk|hk|hk|hk|hk:x.ty=1∨x.ty=2∨x.ty=3∨x.ty=4∨x.ty=5∨x.ty=6∨x.ty=7∨x.ty=8∨x.ty=9∨x.ty=10∨x.ty=11∨x.ty=12∨x.ty=13∨x.ty=14∨x.ty=15∨x.ty=16∨x.ty=17:=DL
       ·exact pz fx fy c alt x y spd bank oalt gr hx hy w hu hG hO hL v1 v2 v3 hcr DL DL hk
       ·exact pC fx fy c alt x y spd bank oalt gr hx hy w hu hG hO hL v1 v2 v3 hcr DL DL hk
       ·exact pE fx fy c alt x y spd bank oalt gr hx hy w hu hG hO hL v1 v2 v3 hcr DL DL hk
       ·exact pD fx fy c alt x y spd bank oalt gr hx hy w hu hG hO hL v1 v2 v3 hcr DL DL hk
       ·exact pF fx fy c alt x y spd bank oalt gr hx hy w hu hG hO hL v1 v2 v3 hcr DL DL hk
       ·exact pG fx fy c alt x y spd bank oalt gr hx hy w hu hG hO hL v1 v2 v3 hcr DL DL hk
       ·exact pH fx fy c alt x y spd bank oalt gr hx hy w hu hG hO hL v1 v2 v3 hcr DL DL hk
       ·exact pI fx fy c alt x y spd bank oalt gr hx hy w hu hG hO hL v1 v2 v3 hcr DL DL hk
       ·exact pJ fx fy c alt x y spd bank oalt gr hx hy w hu hG hO hL v1 v2 v3 hcr DL DL hk
       ·exact Tv fx fy c alt x y spd bank oalt gr hx hy w hu hG hO hL v1 v2 v3 hcr DL DL hk
       ·exact Tr fx fy c alt x y spd bank oalt gr hx hy w hu hG hO hL v1 v2 v3 hcr DL DL hk
       ·exact Tt fx fy c alt x y spd bank oalt gr hx hy w hu hG hO hL v1 v2 v3 hcr DL DL hk
       ·exact Tu fx fy c alt x y spd bank oalt gr hx hy w hu hG hO hL v1 v2 v3 hcr DL DL hk
       ·exact Tw fx fy c alt x y spd bank oalt gr hx hy w hu hG hO hL v1 v2 v3 hcr DL DL hk
       ·exact Tx fx fy c alt x y spd bank oalt gr hx hy w hu hG hO hL v1 v2 v3 hcr DL DL hk
       ·exact Ty fx fy c alt x y spd bank oalt gr hx hy w hu hG hO hL v1 v2 v3 hcr DL DL hk
       ·exact Tz fx fy c alt x y spd bank oalt gr hx hy w hu hG hO hL v1 v2 v3 hcr DL DL hk
       )
    ·(
     have HT:Hid (qp fx fy c alt x y spd bank oalt gr=(Tk.zero,2)):=hide (by unfold qp;rw[if_neg (by rw[hO];simp),if_neg (by rw[hG];simp),if_neg (by rw[hL];simp)];rw[if_neg (by rw[v1,v2,v3];simp),if_pos DL]);have P1:=fun W=>qQ fx fy W
     rw[v1]at P1;have P2:=fun W=>qQ x.ex x.ey W
     rw[v2]at P2;have P3:=fun W=>qQ x.mx x.my W
     rw[v3]at P3;have RC:=fun W=>zY c W
     rw[decide_eq_false hcr]at RC;clear hcr;clear hO hL hkk v1 v2 v3;have hM:=qE w;go_enter Tryz.func33,Tryz.ntmps33;go_wp2_with(first|(refine DU ?_;clear hM;intro g W hM)|(go_at_call 29;refine cb hM (CH _) ?_;clear hM;intro W1 hM)|(go_at_call 81;(refine(LC _ (hide (qV hM hu.out))).mono ?_);rintro e W1 ⟨rfl,hb⟩;replace hM:=qz hM hb;clear hb)|(refine qf (P1 _) ?_;clear hM;intro W1 hM)|(refine qf (P2 _) ?_;clear hM;intro W1 hM)|(refine qf (P3 _) ?_;clear hM;intro W1 hM)|refine DG (RC _) ?_)
     all_goals first
      |(exact absurd (show x.gap=true by assumption) (Bool.eq_false_iff.1 hG))
      |(exact absurd hG (show¬x.gap=true by assumption))|(exact absurd hG (Bool.eq_false_iff.1 (show x.gap=false by assumption)))
      |(refine' qO hM rfl rfl Tryz.isAgg67 Tryz.sizeOf67 rfl rfl ?_ ?_ ⟨?_,hM.below⟩;rotate_left 2;(·repeat constructor);(·rfl);(·exact zMResF0))
     )
   ·have HT:Hid (qp fx fy c alt x y spd bank oalt gr=(Tk.zero,zU x)):=hide (by unfold qp;rw[if_neg (by rw[hO];simp),if_neg (by rw[hG];simp),if_pos hL]);obtain⟨E0,hE⟩:∃E0,zU x=E0:=⟨_,rfl⟩;rw[hE]at LC HT hL;have hne:(E0 !=0)=true:=by simpa using hL
    clear hO hL hE;have hM:=qE w;go_enter Tryz.func33,Tryz.ntmps33;go_wp2_with(first|(refine DU ?_;clear hM;intro g W hM)|(go_at_call 29;refine cb hM (CH _) ?_;clear hM;intro W1 hM)|(go_at_call 81;(refine(LC _ (hide (qV hM hu.out))).mono ?_);rintro e W1 ⟨rfl,hb⟩;replace hM:=qz hM hb;clear hb))
    all_goals first
     |(exact absurd (show x.gap=true by assumption) (Bool.eq_false_iff.1 hG))
     |(exact absurd hG (show¬x.gap=true by assumption))|(exact absurd hG (Bool.eq_false_iff.1 (show x.gap=false by assumption)))
     |(refine' qO hM rfl rfl Tryz.isAgg67 Tryz.sizeOf67 rfl rfl ?_ ?_ ⟨?_,hM.below⟩;rotate_left 2;(·repeat constructor);(·rfl);(·exact zMResF0))
  ·have HT:Hid (qp fx fy c alt x y spd bank oalt gr=(Tk.zero,17)):=hide (by unfold qp;rw[if_neg (by rw[hO];simp),if_pos hG]);clear hO;have hM:=qE w;go_enter Tryz.func33,Tryz.ntmps33;go_wp2_with(first|(refine DU ?_;clear hM;intro g W hM)|(go_at_call 29;refine cb hM (CH _) ?_;clear hM;intro W1 hM))
   all_goals first
    |(exact absurd (show x.gap=true by assumption) (Bool.eq_false_iff.1 hG))
    |(exact absurd hG (show¬x.gap=true by assumption))|(exact absurd hG (Bool.eq_false_iff.1 (show x.gap=false by assumption)))
    |(refine' qO hM rfl rfl Tryz.isAgg67 Tryz.sizeOf67 rfl rfl ?_ ?_ ⟨?_,hM.below⟩;rotate_left 2;(·repeat constructor);(·rfl);(·exact zMResF0))
 ·have HT:Hid (qp fx fy c alt x y spd bank oalt gr=(Tk.zero,jY spd bank oalt gr)):=hide (by unfold qp;rw[if_pos hO]);obtain⟨E0,hE⟩:∃E0,jY spd bank oalt gr=E0:=⟨_,rfl⟩;rw[hE]at CH HT hO;have hne:(E0 !=0)=true:=by simpa using hO
  clear hO hE;have hM:=qE w;go_enter Tryz.func33,Tryz.ntmps33;go_wp2_with(first|(refine DU ?_;clear hM;intro g W hM)|(go_at_call 29;refine cb hM (CH _) ?_;clear hM;intro W1 hM))
  all_goals first
   |(exact absurd (show x.gap=true by assumption) (Bool.eq_false_iff.1 hG))
   |(exact absurd hG (show¬x.gap=true by assumption))|(exact absurd hG (Bool.eq_false_iff.1 (show x.gap=false by assumption)))
   |(refine' qO hM rfl rfl Tryz.isAgg67 Tryz.sizeOf67 rfl rfl ?_ ?_ ⟨?_,hM.below⟩;rotate_left 2;(·repeat constructor);(·rfl);(·exact zMResF0))
set_option maxRecDepth 100000 in
set_option maxHeartbeats 8000000 in
theorem BK(fx fy c alt:Int)(x y:En)(spd bank oalt gr:Int)(hx:vT x)(hy:vT y)(ha:qK alt)(hc:qK c)(w:World):
 Calls Tryz.prog 51 #[.agg #[Iv fx,Iv fy],Iv c,Iv alt,.agg x.cells.toArray,.agg y.cells.toArray,.agg #[Iv spd,Iv bank,Iv oalt,Iv gr]] w fun e w'=>e= .returned (.tuple #[.agg (qp fx fy c alt x y spd bank oalt gr).1.cells.toArray,Iv (qp fx fy c alt x y spd bank oalt gr).2])∧Below w.heap.size w w':=by
 have CH:=fun W=>jC spd bank oalt gr W
 have LC:=fun W=>zR x hx.leg W
 by_cases hO:jY spd bank oalt gr=0
 ·rw[hO]at CH;have ho:=js hO;obtain⟨_,_,_,hg1,hg2⟩:=ho;rcases hG:x.gap with _|_
  ·by_cases hL:zU x=0
   ·rw[hL]at LC;have hkk:=jr hL;rcases v1:qw fx fy with _|_
    ·(
     have HT:Hid (qp fx fy c alt x y spd bank oalt gr=(Tk.zero,1)):=hide (by unfold qp;rw[if_neg (by rw[hO];simp),if_neg (by rw[hG];simp),if_neg (by rw[hL];simp)];rw[if_pos (by rw[v1];simp)]);have P1:=fun W=>qL fx fy W
     rw[v1]at P1;clear hO hL hkk v1;have hM:=qE w;go_enter Tryz.func51,Tryz.ntmps51;go_wp2_with(first|(refine DU ?_;clear hM;intro g W hM)|(go_at_call 48;refine cb hM (CH _) ?_;clear hM;intro W1 hM)|(go_at_call 110;(refine(LC _).mono ?_);rintro e W1 ⟨rfl,hb⟩;replace hM:=qz hM hb;clear hb)|(refine qf (P1 _) ?_;clear hM;intro W1 hM))
     all_goals first
      |(exact absurd (show x.gap=true by assumption) (Bool.eq_false_iff.1 hG))
      |(exact absurd hG (show¬x.gap=true by assumption))|(exact absurd hG (Bool.eq_false_iff.1 (show x.gap=false by assumption)))
      |(refine' qO hM rfl rfl Tryz.isAgg67 Tryz.sizeOf67 rfl rfl ?_ ?_ ⟨?_,hM.below⟩;rotate_left 2;(·repeat constructor);(·rfl);(·exact zMResF0))
     )
    rcases v2:qw x.ex x.ey with _|_
    ·(
     have HT:Hid (qp fx fy c alt x y spd bank oalt gr=(Tk.zero,1)):=hide (by unfold qp;rw[if_neg (by rw[hO];simp),if_neg (by rw[hG];simp),if_neg (by rw[hL];simp)];rw[if_pos (by rw[v1,v2];simp)]);have P1:=fun W=>qL fx fy W
     rw[v1]at P1;have P2:=fun W=>qL x.ex x.ey W
     rw[v2]at P2;clear hO hL hkk v1 v2;have hM:=qE w;go_enter Tryz.func51,Tryz.ntmps51;go_wp2_with(first|(refine DU ?_;clear hM;intro g W hM)|(go_at_call 48;refine cb hM (CH _) ?_;clear hM;intro W1 hM)|(go_at_call 110;(refine(LC _).mono ?_);rintro e W1 ⟨rfl,hb⟩;replace hM:=qz hM hb;clear hb)|(refine qf (P1 _) ?_;clear hM;intro W1 hM)|(refine qf (P2 _) ?_;clear hM;intro W1 hM))
     all_goals first
      |(exact absurd (show x.gap=true by assumption) (Bool.eq_false_iff.1 hG))
      |(exact absurd hG (show¬x.gap=true by assumption))|(exact absurd hG (Bool.eq_false_iff.1 (show x.gap=false by assumption)))
      |(refine' qO hM rfl rfl Tryz.isAgg67 Tryz.sizeOf67 rfl rfl ?_ ?_ ⟨?_,hM.below⟩;rotate_left 2;(·repeat constructor);(·rfl);(·exact zMResF0))
     )
    rcases v3:qw x.mx x.my with _|_
    ·(
     have HT:Hid (qp fx fy c alt x y spd bank oalt gr=(Tk.zero,1)):=hide (by unfold qp;rw[if_neg (by rw[hO];simp),if_neg (by rw[hG];simp),if_neg (by rw[hL];simp)];rw[if_pos (by rw[v1,v2,v3];simp)]);have P1:=fun W=>qL fx fy W
     rw[v1]at P1;have P2:=fun W=>qL x.ex x.ey W
     rw[v2]at P2;have P3:=fun W=>qL x.mx x.my W
     rw[v3]at P3;clear hO hL hkk v1 v2 v3;have hM:=qE w;go_enter Tryz.func51,Tryz.ntmps51;go_wp2_with(first|(refine DU ?_;clear hM;intro g W hM)|(go_at_call 48;refine cb hM (CH _) ?_;clear hM;intro W1 hM)|(go_at_call 110;(refine(LC _).mono ?_);rintro e W1 ⟨rfl,hb⟩;replace hM:=qz hM hb;clear hb)|(refine qf (P1 _) ?_;clear hM;intro W1 hM)|(refine qf (P2 _) ?_;clear hM;intro W1 hM)|(refine qf (P3 _) ?_;clear hM;intro W1 hM))
     all_goals first
      |(exact absurd (show x.gap=true by assumption) (Bool.eq_false_iff.1 hG))
      |(exact absurd hG (show¬x.gap=true by assumption))|(exact absurd hG (Bool.eq_false_iff.1 (show x.gap=false by assumption)))
      |(refine' qO hM rfl rfl Tryz.isAgg67 Tryz.sizeOf67 rfl rfl ?_ ?_ ⟨?_,hM.below⟩;rotate_left 2;(·repeat constructor);(·rfl);(·exact zMResF0))
     )
    by_cases r1:c<0
    ·(
       have HT:Hid (qp fx fy c alt x y spd bank oalt gr=(Tk.zero,2)):=hide (by unfold qp;rw[if_neg (by rw[hO];simp),if_neg (by rw[hG];simp),if_neg (by rw[hL];simp)];rw[if_neg (by rw[v1,v2,v3];simp),if_pos DL]);have P1:=fun W=>qL fx fy W
       rw[v1]at P1;have P2:=fun W=>qL x.ex x.ey W
       rw[v2]at P2;have P3:=fun W=>qL x.mx x.my W
       rw[v3]at P3;have z1:decide (c<0)=true:=decide_eq_true r1;clear hO hL hkk v1 v2 v3;have hM:=qE w;go_enter Tryz.func51,Tryz.ntmps51;go_wp2_with(first|(refine DU ?_;clear hM;intro g W hM)|(go_at_call 48;refine cb hM (CH _) ?_;clear hM;intro W1 hM)|(go_at_call 110;(refine(LC _).mono ?_);rintro e W1 ⟨rfl,hb⟩;replace hM:=qz hM hb;clear hb)|(refine qf (P1 _) ?_;clear hM;intro W1 hM)|(refine qf (P2 _) ?_;clear hM;intro W1 hM)|(refine qf (P3 _) ?_;clear hM;intro W1 hM))
       all_goals first
        |(exact absurd (show x.gap=true by assumption) (Bool.eq_false_iff.1 hG))
        |(exact absurd hG (show¬x.gap=true by assumption))|(exact absurd hG (Bool.eq_false_iff.1 (show x.gap=false by assumption)))
        |(refine' qO hM rfl rfl Tryz.isAgg67 Tryz.sizeOf67 rfl rfl ?_ ?_ ⟨?_,hM.below⟩;rotate_left 2;(·repeat constructor);(·rfl);(·exact zMResF0))
     )
    by_cases r2:129600000≤c
    ·(
       have HT:Hid (qp fx fy c alt x y spd bank oalt gr=(Tk.zero,2)):=hide (by unfold qp;rw[if_neg (by rw[hO];simp),if_neg (by rw[hG];simp),if_neg (by rw[hL];simp)];rw[if_neg (by rw[v1,v2,v3];simp),if_pos DL]);have P1:=fun W=>qL fx fy W
       rw[v1]at P1;have P2:=fun W=>qL x.ex x.ey W
       rw[v2]at P2;have P3:=fun W=>qL x.mx x.my W
       rw[v3]at P3;have z1:decide (c<0)=false:=decide_eq_false r1;have z2:decide (129600000≤c)=true:=decide_eq_true r2;clear hO hL hkk v1 v2 v3;have hM:=qE w;go_enter Tryz.func51,Tryz.ntmps51;go_wp2_with(first|(refine DU ?_;clear hM;intro g W hM)|(go_at_call 48;refine cb hM (CH _) ?_;clear hM;intro W1 hM)|(go_at_call 110;(refine(LC _).mono ?_);rintro e W1 ⟨rfl,hb⟩;replace hM:=qz hM hb;clear hb)|(refine qf (P1 _) ?_;clear hM;intro W1 hM)|(refine qf (P2 _) ?_;clear hM;intro W1 hM)|(refine qf (P3 _) ?_;clear hM;intro W1 hM))
       all_goals first
        |(exact absurd (show x.gap=true by assumption) (Bool.eq_false_iff.1 hG))
        |(exact absurd hG (show¬x.gap=true by assumption))|(exact absurd hG (Bool.eq_false_iff.1 (show x.gap=false by assumption)))
        |(refine' qO hM rfl rfl Tryz.isAgg67 Tryz.sizeOf67 rfl rfl ?_ ?_ ⟨?_,hM.below⟩;rotate_left 2;(·repeat constructor);(·rfl);(·exact zMResF0))
     )
    by_cases r3:alt< -200000
    ·(
       have HT:Hid (qp fx fy c alt x y spd bank oalt gr=(Tk.zero,2)):=hide (by unfold qp;rw[if_neg (by rw[hO];simp),if_neg (by rw[hG];simp),if_neg (by rw[hL];simp)];rw[if_neg (by rw[v1,v2,v3];simp),if_pos DL]);have P1:=fun W=>qL fx fy W
       rw[v1]at P1;have P2:=fun W=>qL x.ex x.ey W
       rw[v2]at P2;have P3:=fun W=>qL x.mx x.my W
       rw[v3]at P3;have z1:decide (c<0)=false:=decide_eq_false r1;have z2:decide (129600000≤c)=false:=decide_eq_false r2;have z3:decide (alt< -200000)=true:=decide_eq_true r3;clear hO hL hkk v1 v2 v3;have hM:=qE w;go_enter Tryz.func51,Tryz.ntmps51;go_wp2_with(first|(refine DU ?_;clear hM;intro g W hM)|(go_at_call 48;refine cb hM (CH _) ?_;clear hM;intro W1 hM)|(go_at_call 110;(refine(LC _).mono ?_);rintro e W1 ⟨rfl,hb⟩;replace hM:=qz hM hb;clear hb)|(refine qf (P1 _) ?_;clear hM;intro W1 hM)|(refine qf (P2 _) ?_;clear hM;intro W1 hM)|(refine qf (P3 _) ?_;clear hM;intro W1 hM))
       all_goals first
        |(exact absurd (show x.gap=true by assumption) (Bool.eq_false_iff.1 hG))
        |(exact absurd hG (show¬x.gap=true by assumption))|(exact absurd hG (Bool.eq_false_iff.1 (show x.gap=false by assumption)))
        |(refine' qO hM rfl rfl Tryz.isAgg67 Tryz.sizeOf67 rfl rfl ?_ ?_ ⟨?_,hM.below⟩;rotate_left 2;(·repeat constructor);(·rfl);(·exact zMResF0))
     )
    by_cases r4:6000000<alt
    ·(
       have HT:Hid (qp fx fy c alt x y spd bank oalt gr=(Tk.zero,2)):=hide (by unfold qp;rw[if_neg (by rw[hO];simp),if_neg (by rw[hG];simp),if_neg (by rw[hL];simp)];rw[if_neg (by rw[v1,v2,v3];simp),if_pos DL]);have P1:=fun W=>qL fx fy W
       rw[v1]at P1;have P2:=fun W=>qL x.ex x.ey W
       rw[v2]at P2;have P3:=fun W=>qL x.mx x.my W
       rw[v3]at P3;have z1:decide (c<0)=false:=decide_eq_false r1;have z2:decide (129600000≤c)=false:=decide_eq_false r2;have z3:decide (alt< -200000)=false:=decide_eq_false r3;have z4:decide (6000000<alt)=true:=decide_eq_true r4;clear hO hL hkk v1 v2 v3;have hM:=qE w;go_enter Tryz.func51,Tryz.ntmps51;go_wp2_with(first|(refine DU ?_;clear hM;intro g W hM)|(go_at_call 48;refine cb hM (CH _) ?_;clear hM;intro W1 hM)|(go_at_call 110;(refine(LC _).mono ?_);rintro e W1 ⟨rfl,hb⟩;replace hM:=qz hM hb;clear hb)|(refine qf (P1 _) ?_;clear hM;intro W1 hM)|(refine qf (P2 _) ?_;clear hM;intro W1 hM)|(refine qf (P3 _) ?_;clear hM;intro W1 hM))
       all_goals first
        |(exact absurd (show x.gap=true by assumption) (Bool.eq_false_iff.1 hG))
        |(exact absurd hG (show¬x.gap=true by assumption))|(exact absurd hG (Bool.eq_false_iff.1 (show x.gap=false by assumption)))
        |(refine' qO hM rfl rfl Tryz.isAgg67 Tryz.sizeOf67 rfl rfl ?_ ?_ ⟨?_,hM.below⟩;rotate_left 2;(·repeat constructor);(·rfl);(·exact zMResF0))
     )
    ·(
       obtain hk|hk|hk|hk|hk|hk|hk|hk|hk|hk|hk|hk|hk|hk|hk|hk|hk:x.ty=1∨x.ty=2∨x.ty=3∨x.ty=4∨x.ty=5∨x.ty=6∨x.ty=7∨x.ty=8∨x.ty=9∨x.ty=10∨x.ty=11∨x.ty=12∨x.ty=13∨x.ty=14∨x.ty=15∨x.ty=16∨x.ty=17:=DL
       ·exact Te fx fy c alt x y spd bank oalt gr hx hy w hG hO hL v1 v2 v3 DL DL DL hk
       ·exact Tf fx fy c alt x y spd bank oalt gr hx hy w hG hO hL v1 v2 v3 DL DL DL hk
       ·exact Th fx fy c alt x y spd bank oalt gr hx hy w hG hO hL v1 v2 v3 DL DL DL hk
       ·exact Tg fx fy c alt x y spd bank oalt gr hx hy w hG hO hL v1 v2 v3 DL DL DL hk
       ·exact Ti fx fy c alt x y spd bank oalt gr hx hy w hG hO hL v1 v2 v3 DL DL DL hk
       ·exact Tj fx fy c alt x y spd bank oalt gr hx hy w hG hO hL v1 v2 v3 DL DL DL hk
       ·exact Tl fx fy c alt x y spd bank oalt gr hx hy w hG hO hL v1 v2 v3 DL DL DL hk
       ·exact Tm fx fy c alt x y spd bank oalt gr hx hy w hG hO hL v1 v2 v3 DL DL DL hk
       ·exact Tn fx fy c alt x y spd bank oalt gr hx hy w hG hO hL v1 v2 v3 DL DL DL hk
       ·exact BD fx fy c alt x y spd bank oalt gr hx hy w hG hO hL v1 v2 v3 DL DL DL hk
       ·exact BJ fx fy c alt x y spd bank oalt gr hx hy w hG hO hL v1 v2 v3 DL DL DL hk
       ·exact BB fx fy c alt x y spd bank oalt gr hx hy w hG hO hL v1 v2 v3 DL DL DL hk
       ·exact BC fx fy c alt x y spd bank oalt gr hx hy w hG hO hL v1 v2 v3 DL DL DL hk
       ·exact BF fx fy c alt x y spd bank oalt gr hx hy w hG hO hL v1 v2 v3 DL DL DL hk
       ·exact BG fx fy c alt x y spd bank oalt gr hx hy w hG hO hL v1 v2 v3 DL DL DL hk
       ·exact BH fx fy c alt x y spd bank oalt gr hx hy w hG hO hL v1 v2 v3 DL DL DL hk
       ·exact BI fx fy c alt x y spd bank oalt gr hx hy w hG hO hL v1 v2 v3 DL DL DL hk
     )
   ·have HT:Hid (qp fx fy c alt x y spd bank oalt gr=(Tk.zero,zU x)):=hide (by unfold qp;rw[if_neg (by rw[hO];simp),if_neg (by rw[hG];simp),if_pos hL]);obtain⟨E0,hE⟩:∃E0,zU x=E0:=⟨_,rfl⟩;rw[hE]at LC HT hL;have hne:(E0 !=0)=true:=by simpa using hL
    clear hO hL hE;have hM:=qE w;go_enter Tryz.func51,Tryz.ntmps51;go_wp2_with(first|(refine DU ?_;clear hM;intro g W hM)|(go_at_call 48;refine cb hM (CH _) ?_;clear hM;intro W1 hM)|(go_at_call 110;(refine(LC _).mono ?_);rintro e W1 ⟨rfl,hb⟩;replace hM:=qz hM hb;clear hb))
    all_goals first
     |(exact absurd (show x.gap=true by assumption) (Bool.eq_false_iff.1 hG))
     |(exact absurd hG (show¬x.gap=true by assumption))|(exact absurd hG (Bool.eq_false_iff.1 (show x.gap=false by assumption)))
     |(refine' qO hM rfl rfl Tryz.isAgg67 Tryz.sizeOf67 rfl rfl ?_ ?_ ⟨?_,hM.below⟩;rotate_left 2;(·repeat constructor);(·rfl);(·exact zMResF0))
  ·have HT:Hid (qp fx fy c alt x y spd bank oalt gr=(Tk.zero,17)):=hide (by unfold qp;rw[if_neg (by rw[hO];simp),if_pos hG]);clear hO;have hM:=qE w;go_enter Tryz.func51,Tryz.ntmps51;go_wp2_with(first|(refine DU ?_;clear hM;intro g W hM)|(go_at_call 48;refine cb hM (CH _) ?_;clear hM;intro W1 hM))
   all_goals first
    |(exact absurd (show x.gap=true by assumption) (Bool.eq_false_iff.1 hG))
    |(exact absurd hG (show¬x.gap=true by assumption))|(exact absurd hG (Bool.eq_false_iff.1 (show x.gap=false by assumption)))
    |(refine' qO hM rfl rfl Tryz.isAgg67 Tryz.sizeOf67 rfl rfl ?_ ?_ ⟨?_,hM.below⟩;rotate_left 2;(·repeat constructor);(·rfl);(·exact zMResF0))
 ·have HT:Hid (qp fx fy c alt x y spd bank oalt gr=(Tk.zero,jY spd bank oalt gr)):=hide (by unfold qp;rw[if_pos hO]);obtain⟨E0,hE⟩:∃E0,jY spd bank oalt gr=E0:=⟨_,rfl⟩;rw[hE]at CH HT hO;have hne:(E0 !=0)=true:=by simpa using hO
  clear hO hE;have hM:=qE w;go_enter Tryz.func51,Tryz.ntmps51;go_wp2_with(first|(refine DU ?_;clear hM;intro g W hM)|(go_at_call 48;refine cb hM (CH _) ?_;clear hM;intro W1 hM))
  all_goals first
   |(exact absurd (show x.gap=true by assumption) (Bool.eq_false_iff.1 hG))
   |(exact absurd hG (show¬x.gap=true by assumption))|(exact absurd hG (Bool.eq_false_iff.1 (show x.gap=false by assumption)))
   |(refine' qO hM rfl rfl Tryz.isAgg67 Tryz.sizeOf67 rfl rfl ?_ ?_ ⟨?_,hM.below⟩;rotate_left 2;(·repeat constructor);(·rfl);(·exact zMResF0))
end Go.Proofs.YtcgpbnlhnafhjaaGreatDoor
