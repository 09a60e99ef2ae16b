/-
  What a flight does on a leg.
-/
import Derived.Test.YtiegohjobhehcaaGreatDoorMConsD
import Derived.Test.YtiegohjobhehcaaGreatDoorMGridH
import Derived.Test.YtiegohjobhehcaaGreatDoorMPrdA
import Derived.Deep.CutBlock
set_option maxRecDepth 100000
set_option maxHeartbeats 16000000
namespace Go.Proofs.YtiegohjobhehcaaGreatDoor
open Go.RowKit
set_option linter.unusedVariables false
set_option linter.unusedSimpArgs false
structure Lg where
 al:Int
 co:Int
 ph:Int
 sp:Int
 ta:Int
 we:Int
 wn:Int
abbrev Lg.cells(l:Lg):List Value:=[Iv l.al,Iv l.co,.int .u8 l.ph,Iv l.sp,Iv l.ta,Iv l.we,Iv l.wn]
def Lg.ok(l:Lg):Prop:=(qz l.al∧qz l.co∧qz l.sp∧qz l.ta∧qz l.we∧qz l.wn)∧1≤l.ph∧l.ph≤3
theorem grd{r:Int}(h:1024≤r)(h2:r≤9223372036854775807):1≤wrap64 (r.tdiv 1024):=by
 rw[Int.tdiv_eq_ediv_of_nonneg qg];unfold wrap64;omega
theorem Wl{a b:Int}(ha:0≤a)(ha2:a≤8000000)(hb:1≤b):0≤(qL 1 a 1 b).1∧(qL 1 a 1 b).1≤8000000∧a≤b*(qL 1 a 1 b).1:=by
 have hn:b≠0:=qg;have h1:b*((-a)/b)≤ -a:=Int.mul_ediv_self_le hn;have h2: -a<b*((-a)/b)+b:=Int.lt_mul_ediv_self_add qg
 have h3:(-a)/b≤0:=by
  rcases Int.lt_or_le 0 ((-a)/b)with h|h
  ·have:=Int.mul_le_mul (a:=1) (b:=1) (c:=b) (d:=(-a)/b) hb qg qg qg;omega
  ·exact h
 have h4: -a≤(-a)/b:=by
  apply Int.le_ediv_of_mul_le qg;have:=Int.mul_le_mul_of_nonneg_left hb ha;rw[Int.mul_one]at this;rw[Int.neg_mul];omega
 have e:kN 1 (a*1) b= -((-a)/b):=by
  unfold kN;rw[if_neg qG,if_pos rfl,Int.mul_one,Int.fdiv_eq_ediv_of_nonneg _ qg]
 unfold qL;rw[if_neg hn,e];have hin:Qy (-((-a)/b))=true:=by unfold Qy;exact decide_eq_true qg
 rw[if_pos hin];dsimp only;refine⟨qg,qg,?_⟩;rw[Int.mul_neg];omega
theorem Yx(l:Lg)(u:Su)(dev:Int)(w:World)(hl:qz l.al):Calls Tryz.prog 137 #[.agg l.cells.toArray,.agg u.cells.toArray,Iv dev] w (kY (fun _=>True) w):=by
 have hM:=qo w;go_enter Tryz.func137,Tryz.ntmps137;go_upto_region 0 with fail;refine qj ?_;go_cut [3,4] (fun s3 s4 wx=>∃gl gu:Nat,s3= .pointer (some ⟨gl,0,none⟩)∧s4= .pointer (some ⟨gu,0,none⟩)∧qF w wx [(gu,u.cells,42),(gl,l.cells,214)])
 case first=>
  go_wp2_with(first|(refine qe ?_;clear hM;intro g W hM))
  all_goals
   go_meet;exact⟨_,_,rfl,rfl,hM⟩
 case rest=>
 clear hM;obtain⟨gl,gu,rfl,rfl,hM⟩:=hcut;go_wp2_with(first|refine zC ?_|(go_at_call 59;(with_reducible refine cx hM (Vs _ _ _ _ _ hl) ?_);clear hM;rintro⟨r,e⟩ W1 ⟨ir,-⟩ hM;dsimp only at ir;try dsimp only))
 all_goals(go_ret;exact⟨_,rfl,⟨ir,trivial⟩,hM.below⟩)
theorem pP(l:Lg)(we wn:Int)(w:World)(hl:qz l.co):Calls Tryz.prog 138 #[.agg l.cells.toArray,.agg #[Iv we,Iv wn]] w (bR (fun r:Int×Int=> .tuple #[Iv r.1,Iv r.2]) (fun r=>qz r.1∧qz r.2∧(r.2=0→1≤r.1)) w):=by
 have hM:=qo w;go_enter Tryz.func138,Tryz.ntmps138;go_upto_region 0 with fail;refine qj ?_;go_cut [2,3] (fun s2 s3 wx=>∃gl gw:Nat,s2= .pointer (some ⟨gl,0,none⟩)∧s3= .pointer (some ⟨gw,0,none⟩)∧qF w wx [(gw,[Iv we,Iv wn],145),(gl,l.cells,214)])
 case first=>
  go_wp2_with(first|(refine qe ?_;clear hM;intro g W hM))
  all_goals
   go_meet;exact⟨_,_,rfl,rfl,hM⟩
 case rest=>
 clear hM;obtain⟨gl,gw,rfl,rfl,hM⟩:=hcut;go_upto_region 2 with(first|refine zC ?_|(go_at_call 192;(with_reducible refine cx hM (PD _ _ _ _ _ hl) ?_);clear hM;rintro⟨r,d,e⟩ W1 ⟨ir,-,ie,hg⟩ hM;dsimp only at ir ie hg;try dsimp only));have HG:=hide hg;clear hg;go_wp2_with(first|refine zC ?_)
 all_goals(go_ret2;exact⟨(_,_),rfl,⟨by first|exact ze _|exact zi _,ie,fun h=>grd (HG.out h) ir.2⟩,hM.below⟩)
theorem Zr(a b:Int)(w:World)(ha:qz a)(hb:qz b):Calls Tryz.prog 140 #[Iv a,Iv b] w (kY (fun n=>n=(qL 1 a 1 b).1) w):=by
 have hM:=qo w;go_enter Tryz.func140,Tryz.ntmps140;go_wp2_with(first|(refine qe ?_;clear hM;intro g W hM)|(go_at_call 159;(with_reducible refine cx hM (lY _ _ _ ha hb) ?_);clear hM;rintro⟨r,e⟩ W1 hr hM;try dsimp only))
 all_goals(go_ret;exact⟨_,rfl,⟨by rw[show r=(qL 1 a 1 b).1 from congrArg Prod.fst hr];exact Jb _ _ _ _,congrArg Prod.fst hr⟩,hM.below⟩)
theorem xG(l:Lg)(u:Su)(f:Nat→Nd)(left tas:Int)(w:World)(hl:qz l.al)(hp:1≤l.ph∧l.ph≤3)(HS:Hid (xF w u f)):Calls Tryz.prog 141 #[.agg l.cells.toArray,.agg u.cells.toArray,Iv left,Iv tas] w (kY (fun _=>True) w):=by
 have hM:=qo w;go_enter Tryz.func141,Tryz.ntmps141;go_upto_region 0 with fail;refine qj ?_;go_cut [4,5] (fun s4 s5 wx=>∃gl gu:Nat,s4= .pointer (some ⟨gl,0,none⟩)∧s5= .pointer (some ⟨gu,0,none⟩)∧qF w wx [(gu,u.cells,42),(gl,l.cells,214)])
 case first=>
  go_wp2_with(first|(refine qe ?_;clear hM;intro g W hM))
  all_goals
   go_meet;exact⟨_,_,rfl,rfl,hM⟩
 case rest=>
 clear hM;obtain⟨gl,gu,rfl,rfl,hM⟩:=hcut;by_cases h1:l.ph=1
 ·have e1:(l.ph==1)=true:=by simpa using h1
  clear h1;go_wp2_with(first|refine zC ?_|(go_at_call 195;(with_reducible refine cx hM (QM u.pf l.al _ _ hl (by first|exact ze _|exact zi _) (hide (jR hM HS.out.pf))) ?_);clear hM;rintro⟨r,e⟩ W1 ⟨ir,-⟩ hM;dsimp only at ir;try dsimp only)|(go_at_call 196;(with_reducible refine cx hM (Qa u.pf l.al _ _ _ hl (by first|exact ze _|exact zi _) (hide (jR hM HS.out.pf))) ?_);clear hM;rintro⟨r,e⟩ W1 ⟨ir,-⟩ hM;dsimp only at ir;try dsimp only)|(go_at_call 197;(with_reducible refine cx hM (pd u.pf l.al _ hl (hide (jR hM HS.out.pf))) ?_);clear hM;rintro⟨r,e⟩ W1 ⟨ir,-⟩ hM;dsimp only at ir;try dsimp only))
  all_goals(go_ret;exact⟨_,rfl,⟨ir,trivial⟩,hM.below⟩)
 ·have e1:(l.ph==1)=false:=by simpa using h1
  by_cases h2:l.ph=2
  ·have e2:(l.ph==2)=true:=by simpa using h2
   clear h1 h2;go_wp2_with(first|refine zC ?_|(go_at_call 195;(with_reducible refine cx hM (QM u.pf l.al _ _ hl (by first|exact ze _|exact zi _) (hide (jR hM HS.out.pf))) ?_);clear hM;rintro⟨r,e⟩ W1 ⟨ir,-⟩ hM;dsimp only at ir;try dsimp only)|(go_at_call 196;(with_reducible refine cx hM (Qa u.pf l.al _ _ _ hl (by first|exact ze _|exact zi _) (hide (jR hM HS.out.pf))) ?_);clear hM;rintro⟨r,e⟩ W1 ⟨ir,-⟩ hM;dsimp only at ir;try dsimp only)|(go_at_call 197;(with_reducible refine cx hM (pd u.pf l.al _ hl (hide (jR hM HS.out.pf))) ?_);clear hM;rintro⟨r,e⟩ W1 ⟨ir,-⟩ hM;dsimp only at ir;try dsimp only))
   all_goals(go_ret;exact⟨_,rfl,⟨ir,trivial⟩,hM.below⟩)
  ·have e2:(l.ph==2)=false:=by simpa using h2
   clear h1 h2;go_wp2_with(first|refine zC ?_|(go_at_call 195;(with_reducible refine cx hM (QM u.pf l.al _ _ hl (by first|exact ze _|exact zi _) (hide (jR hM HS.out.pf))) ?_);clear hM;rintro⟨r,e⟩ W1 ⟨ir,-⟩ hM;dsimp only at ir;try dsimp only)|(go_at_call 196;(with_reducible refine cx hM (Qa u.pf l.al _ _ _ hl (by first|exact ze _|exact zi _) (hide (jR hM HS.out.pf))) ?_);clear hM;rintro⟨r,e⟩ W1 ⟨ir,-⟩ hM;dsimp only at ir;try dsimp only)|(go_at_call 197;(with_reducible refine cx hM (pd u.pf l.al _ hl (hide (jR hM HS.out.pf))) ?_);clear hM;rintro⟨r,e⟩ W1 ⟨ir,-⟩ hM;dsimp only at ir;try dsimp only))
   all_goals(go_ret;exact⟨_,rfl,⟨ir,trivial⟩,hM.below⟩)
theorem Ed(x:Int):qz (IntKind.i64.wrap x/2):=by
 have:=ze x;unfold qz at*;omega
theorem ME(u:Su)(f:Nat→Nd)(A B:Option Addr)(qa qb:Nat)(fa fb:Nat→Int)(i:Nat)(w:World)(HS:Hid (xF w u f))(hi:i+1<u.n)(HA:Hid (jT w A u.n fa))(HB:Hid (jT w B u.n fb)):Calls Tryz.prog 135 #[.agg u.cells.toArray,.slice A u.n qa,.slice B u.n qb,Iv ((i:Int)+1)] w (bR (fun l:Lg=> .agg l.cells.toArray) Lg.ok w):=by
 have hM:=qo w;have hn63:=HS.out.n63;unfold maxLen at hn63;obtain⟨bn,on,hS,-⟩:=HS.out.nd 0 qg;have hS0:Hid (u.cells[0]? =some (.slice (some ⟨bn,on,none⟩) u.n u.c)):=hide (by rw[←hS];rfl);obtain⟨HN0,-⟩:=vU HS.out hS (k:=i) qg;obtain⟨HN1,-⟩:=vU HS.out hS (k:=i+1) hi;obtain⟨ba,oa,rfl⟩:=gJ HA.out qg;obtain⟨bb,ob,rfl⟩:=gJ HB.out qg;have h0:i<u.n:=qg;have wm:=zT (x:=(i:Int)+1-1) (y:=(i:Int)) qg qg;clear hS;go_enter Tryz.func135,Tryz.ntmps135;go_upto_region 0 with fail;refine qj ?_;go_cut [4,8] (fun s4 s8 wx=>∃gu g8:Nat,s4= .pointer (some ⟨gu,0,none⟩)∧s8= .pointer (some ⟨g8,0,none⟩)∧qF w wx [(g8,[Iv 0,Iv 0,.int .u8 0,Iv 0,Iv 0,Iv 0,Iv 0],214),(gu,u.cells,42)])
 case first=>
  go_wp2_with(first|(refine qe ?_;clear hM;intro g W hM))
  all_goals
   go_meet;exact⟨_,_,rfl,rfl,hM⟩
 case rest=>
 clear hM;obtain⟨gu,g8,rfl,rfl,hM⟩:=hcut;go_upto_region 1 with fail;refine qj ?_;go_cut [9,10] (fun s9 s10 wx=>∃g9 g10:Nat,s9= .pointer (some ⟨g9,0,none⟩)∧s10= .pointer (some ⟨g10,0,none⟩)∧qF w wx [(g10,[Iv (f (i+1)).x,Iv (f (i+1)).y],26),(g9,[Iv (f i).x,Iv (f i).y],26),(g8,[Iv 0,Iv 0,.int .u8 0,Iv 0,Iv 0,Iv 0,Iv 0],214),(gu,u.cells,42)])
 case first=>
  as_aux_lemma=>
   refine qA [(gu,u.cells,42)] hM qM ?_;(clear hM;intro W hM);refine rD 0 ?_;refine dL 1 hM ?_ (hv:=hS0.out);refine qj ?_;refine rD 2 ?_;refine dP 3 (v:=Iv ((i:Int))) hM ?_ (hv:=by(intro W0;go_simp<;>first|assumption|rfl|exact zT qg qg));refine qj ?_;refine dP 4 (v:= .pointer (some ⟨bn,on+i*7,none⟩)) hM ?_ (hv:=by(intro W0;go_simp;first|done|omega|(intro h;exact absurd h qg)));refine qj ?_;refine rD 5 ?_;refine Qp 6 hM (fun j v hj=>HN0.out j v (Td hj)) ?_;refine qj ?_;refine rD 7 ?_;refine dL 8 hM ?_ (hv:=hS0.out);refine qj ?_;refine rD 9 ?_;refine dP 10 (v:= .pointer (some ⟨bn,on+(i+1)*7,none⟩)) hM ?_ (hv:=by(intro W0;go_simp;first|done|omega|(intro h;exact absurd h qg)));refine qj ?_;refine rD 11 ?_;refine Qp 12 hM (fun j v hj=>HN1.out j v (Td hj)) ?_;refine qj ?_;refine dT 13 14 (fun K' hK'=> ?_) (fun K' hK'=> ?_)
   ·
    refine oN hM ?_;clear hM;intro g9 W hM;refine rK hK' hM ?_;clear hK' K';refine dC 14 (fun K' hK'=> ?_);refine oN hM ?_;clear hM;intro g10 W hM;refine rK hK' hM ?_;clear hK' K';refine dC 15 (fun K' hK'=> ?_);refine oS hM ?_;clear hM;intro W hM;refine rK hK' hM ?_;clear hK' K';refine dC 16 (fun K' hK'=> ?_);refine oS hM ?_;clear hM;intro W hM;refine rK hK' hM ?_;clear hK' K';refine qp qM ?_;go_wp2_with fail
    all_goals
     go_meet
     first
      |exact⟨_,_,rfl,rfl,hM⟩
      |exact⟨_,_,rfl,rfl,qW hM (List.Perm.swap _ _ _)⟩
   ·
    refine oN hM ?_;clear hM;intro g10 W hM;refine rK hK' hM ?_;clear hK' K';refine dC 13 (fun K' hK'=> ?_);refine oN hM ?_;clear hM;intro g9 W hM;refine rK hK' hM ?_;clear hK' K';refine dC 15 (fun K' hK'=> ?_);refine oS hM ?_;clear hM;intro W hM;refine rK hK' hM ?_;clear hK' K';refine dC 16 (fun K' hK'=> ?_);refine oS hM ?_;clear hM;intro W hM;refine rK hK' hM ?_;clear hK' K';refine qp qM ?_;go_wp2_with fail
    all_goals
     go_meet
     first
      |exact⟨_,_,rfl,rfl,hM⟩
      |exact⟨_,_,rfl,rfl,qW hM (List.Perm.swap _ _ _)⟩
 case rest=>
 clear hM;obtain⟨g9,g10,rfl,rfl,hM⟩:=hcut;go_upto_region 2 with fail;refine qj ?_;go_cut [11] (fun s wx=>∃(g11:Nat) (xa xs:Int),s= .pointer (some ⟨g11,0,none⟩)∧(qz xa∧qz xs)∧qF w wx ((g11,[Iv xa,Iv 0,.int .u8 2,Iv xs,Iv 0,Iv 0,Iv 0],214)::[(g10,[Iv (f (i+1)).x,Iv (f (i+1)).y],26),(g9,[Iv (f i).x,Iv (f i).y],26),(g8,[Iv 0,Iv 0,.int .u8 0,Iv 0,Iv 0,Iv 0,Iv 0],214),(gu,u.cells,42)]))
 case first=>
  as_aux_lemma=>
   refine qA [(gu,u.cells,42)] hM qM ?_;(clear hM;intro W hM);refine rD 0 ?_;refine rD 1 ?_;refine dP 2 (v:=Iv ((i:Int))) hM ?_ (hv:=by(intro W0;go_simp<;>first|assumption|rfl|exact zT qg qg));refine qj ?_;refine dP 3 (v:= .pointer (some ⟨ba,oa+i,none⟩)) hM ?_ (hv:=by(intro W0;go_simp;first|done|omega|(intro h;exact absurd h qg)));refine qj ?_;refine jk 4 hM ((zE HA.out h0).1) ?_;refine qj ?_;refine rD 5 ?_;refine rD 6 ?_;refine dP 7 (v:= .pointer (some ⟨ba,oa+(i+1),none⟩)) hM ?_ (hv:=by(intro W0;go_simp;first|done|omega|(intro h;exact absurd h qg)));refine qj ?_;refine jk 8 hM ((zE HA.out hi).1) ?_;refine qj ?_;refine rD 9 ?_;refine rD 10 ?_;refine rD 11 ?_;refine rD 12 ?_;refine dP 13 (v:=Iv ((i:Int))) hM ?_ (hv:=by(intro W0;go_simp<;>first|assumption|rfl|exact zT qg qg));refine qj ?_;refine dP 14 (v:= .pointer (some ⟨bb,ob+i,none⟩)) hM ?_ (hv:=by(intro W0;go_simp;first|done|omega|(intro h;exact absurd h qg)));refine qj ?_;refine jk 15 hM ((zE HB.out h0).1) ?_;refine qj ?_;refine rD 16 ?_;refine rD 17 ?_;refine dP 18 (v:= .pointer (some ⟨bb,ob+(i+1),none⟩)) hM ?_ (hv:=by(intro W0;go_simp;first|done|omega|(intro h;exact absurd h qg)));refine qj ?_;refine jk 19 hM ((zE HB.out hi).1) ?_;refine qj ?_;refine rD 20 ?_;refine rD 21 ?_;refine rD 22 ?_;refine dC 23 (fun K' hK'=> ?_);refine oN hM ?_;clear hM;intro g11 W hM;refine rK hK' hM ?_;clear hK' K';refine dC 24 (fun K' hK'=> ?_);refine oS hM ?_;clear hM;intro W hM;refine rK hK' hM ?_;clear hK' K';refine qp qM ?_;go_wp2_with fail
   all_goals
    go_meet;exact⟨_,_,_,rfl,⟨by first|exact ze _|exact zi _|exact Ed _,by first|exact ze _|exact zi _|exact Ed _⟩,hM⟩
 case rest=>
 clear hM;obtain⟨g11,xa,xs,rfl,⟨ixa,ixs⟩,hM⟩:=hcut;have ixc:qz (qO (f i).x (f i).y (f (i+1)).x (f (i+1)).y).1:=by have:=xX (f i).x (f i).y (f (i+1)).x (f (i+1)).y;unfold qz;omega
 go_upto_region 3 with fail;refine qj ?_;go_cut [] (fun wx=>∃xc:Int,qz xc∧qF w wx [(g11,[Iv xa,Iv xc,.int .u8 2,Iv xs,Iv 0,Iv 0,Iv 0],214),(g10,[Iv (f (i+1)).x,Iv (f (i+1)).y],26),(g9,[Iv (f i).x,Iv (f i).y],26),(g8,[Iv 0,Iv 0,.int .u8 0,Iv 0,Iv 0,Iv 0,Iv 0],214),(gu,u.cells,42)])
 case first=>
  go_wp2_with(first|(refine qe ?_;clear hM;intro g W hM)|(refine qt (yF _ _ _ _ _) ?_;clear hM;intro W1 hM))
  all_goals
   go_meet;exact⟨_,ixc,hM⟩
 case rest=>
 clear hM ixc;obtain⟨xc,ixc,hM⟩:=hcut
 go_upto_block 0 with fail
 refine qj ?_;go_cut [] (fun wx=>∃xp:Int,(1≤xp∧xp≤3)∧qF w wx [(g11,[Iv xa,Iv xc,.int .u8 xp,Iv xs,Iv 0,Iv 0,Iv 0],214),(g10,[Iv (f (i+1)).x,Iv (f (i+1)).y],26),(g9,[Iv (f i).x,Iv (f i).y],26),(g8,[Iv 0,Iv 0,.int .u8 0,Iv 0,Iv 0,Iv 0,Iv 0],214),(gu,u.cells,42)])
 case first=>
  as_aux_lemma=>
   go_upto_region 4 with fail;refine qj ?_;refine qA [(g11,[Iv xa,Iv xc,.int .u8 2,Iv xs,Iv 0,Iv 0,Iv 0],214),(g10,[Iv (f (i+1)).x,Iv (f (i+1)).y],26),(g9,[Iv (f i).x,Iv (f i).y],26),(g8,[Iv 0,Iv 0,.int .u8 0,Iv 0,Iv 0,Iv 0,Iv 0],214),(gu,u.cells,42)] hM qM ?_;(clear hM;intro W hM);refine rD 0 ?_;refine rD 1 ?_;refine dP 2 (v:= .pointer (some ⟨ba,oa+(i+1),none⟩)) hM ?_ (hv:=by(intro W0;go_simp;first|done|omega|(intro h;exact absurd h qg)));refine qj ?_;refine jk 3 hM ((zE HA.out hi).1) ?_;refine qj ?_;refine rD 4 ?_;refine rD 5 ?_;refine dP 6 (v:=Iv ((i:Int))) hM ?_ (hv:=by(intro W0;go_simp<;>first|assumption|rfl|exact zT qg qg));refine qj ?_;refine dP 7 (v:= .pointer (some ⟨ba,oa+i,none⟩)) hM ?_ (hv:=by(intro W0;go_simp;first|done|omega|(intro h;exact absurd h qg)));refine qj ?_;refine jk 8 hM ((zE HA.out h0).1) ?_;refine qj ?_;refine rD 9 ?_;refine rD 10 ?_;refine qp qM ?_;by_cases h1:fa i<fa (i+1)
   ·go_wp2_with(first|(refine qe ?_;clear hM;intro g W hM))
    all_goals
     go_meet;exact⟨1,⟨qG,qG⟩,hM⟩
   ·go_upto_region 6 with fail;refine qj ?_;refine qA [(g11,[Iv xa,Iv xc,.int .u8 2,Iv xs,Iv 0,Iv 0,Iv 0],214),(g10,[Iv (f (i+1)).x,Iv (f (i+1)).y],26),(g9,[Iv (f i).x,Iv (f i).y],26),(g8,[Iv 0,Iv 0,.int .u8 0,Iv 0,Iv 0,Iv 0,Iv 0],214),(gu,u.cells,42)] hM qM ?_;(clear hM;intro W hM);refine rD 0 ?_;refine rD 1 ?_;refine dP 2 (v:= .pointer (some ⟨ba,oa+(i+1),none⟩)) hM ?_ (hv:=by(intro W0;go_simp;first|done|omega|(intro h;exact absurd h qg)));refine qj ?_;refine jk 3 hM ((zE HA.out hi).1) ?_;refine qj ?_;refine rD 4 ?_;refine rD 5 ?_;refine dP 6 (v:=Iv ((i:Int))) hM ?_ (hv:=by(intro W0;go_simp<;>first|assumption|rfl|exact zT qg qg));refine qj ?_;refine dP 7 (v:= .pointer (some ⟨ba,oa+i,none⟩)) hM ?_ (hv:=by(intro W0;go_simp;first|done|omega|(intro h;exact absurd h qg)));refine qj ?_;refine jk 8 hM ((zE HA.out h0).1) ?_;refine qj ?_;refine rD 9 ?_;refine rD 10 ?_;refine qp qM ?_;by_cases h2:fa (i+1)<fa i
    ·go_wp2_with(first|(refine qe ?_;clear hM;intro g W hM))
     all_goals
      go_meet;exact⟨3,⟨qG,qG⟩,hM⟩
    ·go_wp2_with(first|(refine qe ?_;clear hM;intro g W hM))
     all_goals
      go_meet;exact⟨2,⟨qG,qG⟩,hM⟩
 case rest=>
 clear hM;obtain⟨xp,hxp,hM⟩:=hcut;go_wp2_with(first|(refine qe ?_;clear hM;intro g W hM)|(go_at_call 58;(with_reducible refine cx hM (Fx u.gd _ _ _ _ (hide (zZ hM HS.out.gd))) ?_);clear hM;rintro⟨e,n,d,r⟩ W1 ⟨ie,in_,id_,-⟩ hM;dsimp only at ie in_ id_;try dsimp only)|(go_at_call 137;(with_reducible refine cx hM (Yx ⟨xa,xc,xp,xs,0,e,n⟩ u _ _ ixa) ?_);clear hM;rintro t W1 ⟨it,-⟩ hM))
 all_goals(refine' uX hM rfl rfl Tryz.isAgg214 Tryz.sizeOf214 rfl ?_ ?_ ?_;rotate_left 2;(·repeat constructor);(·rfl);(·exact⟨⟨xa,xc,xp,xs,t,e,n⟩,rfl,⟨⟨ixa,ixc,ixs,it,ie,in_⟩,hxp⟩,hM.below⟩))
end Go.Proofs.YtiegohjobhehcaaGreatDoor
