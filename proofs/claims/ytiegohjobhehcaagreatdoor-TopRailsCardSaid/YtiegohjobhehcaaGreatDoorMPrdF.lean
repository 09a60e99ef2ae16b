/-
  The passage at the end of a leg.
-/
import Derived.Test.YtiegohjobhehcaaGreatDoorMPrdB
import Derived.Test.YtiegohjobhehcaaGreatDoorMPrdE
namespace Go.Proofs.YtiegohjobhehcaaGreatDoor
open Go.RowKit
set_option linter.unusedVariables false
set_option linter.unusedSimpArgs false
structure Pa where
 al:Int
 cs:Int
 ta:Int
 gr:Int
 ti:Int
 fu:Int
 g0:Int
 g1:Int
 t0:Int
 t1:Int
 f0:Int
 f1:Int
 ph:Int
abbrev Pa.cells(p:Pa):List Value:=[Iv p.al,Iv p.cs,Iv p.ta,Iv p.gr,Iv p.ti,Iv p.fu,Iv p.g0,Iv p.g1,Iv p.t0,Iv p.t1,Iv p.f0,Iv p.f1,.int .u8 p.ph]
def Pa.ok(p:Pa):Prop:=qz p.al∧qz p.cs∧qz p.ta∧qz p.gr∧qz p.ti∧qz p.fu∧qz p.g0∧qz p.g1∧qz p.t0∧qz p.t1∧qz p.f0∧qz p.f1
abbrev PF:Pa:=⟨0,0,0,0,0,0,0,0,0,0,0,0,0⟩
theorem Rh:PF.ok:=⟨zg,zg,zg,zg,zg,zg,zg,zg,zg,zg,zg,zg⟩
def MF(f:Nat→Nd)(fa:Nat→Int)(i:Nat)(p:Pa)(r:Pa×Int):Prop:=r.1.ok∧qz r.2∧(r.2=0→r.1.al=fa (i+1)∧1≤r.1.gr∧r.1.ti=wrap64 (p.ti+(qL 1 (f (i+1)).d 1 r.1.gr).1))
theorem Ki{f:Nat→Nd}{fa:Nat→Int}{i:Nat}{p:Pa}{q:Int}(hq:qz q)(h:(q !=0)=true):MF f fa i p (PF,q):=⟨Rh,hq,fun e=>by rw[show q=0 from e]at h;cases h⟩
set_option maxRecDepth 100000 in
set_option maxHeartbeats 8000000 in
theorem Wm(u:Su)(f:Nat→Nd)(A B:Option Addr)(qa qb:Nat)(fa fb:Nat→Int)(p:Pa)(i:Nat)(w:World)(HS:Hid (xF w u f))(HK:Hid (KJ u f))(hi:i+1<u.n)(HA:Hid (jT w A u.n fa))(HB:Hid (jT w B u.n fb))(hp:p.ok):Calls Tryz.prog 60 #[.agg u.cells.toArray,.agg p.cells.toArray,.slice A u.n qa,.slice B u.n qb,Iv ((i:Int)+1)] w (bR (fun r:Pa×Int=> .tuple #[.agg r.1.cells.toArray,Iv r.2]) (MF f fa i p) w):=by
 have hM:=qo w;have hn63:=HS.out.n63;unfold maxLen at hn63;obtain⟨bn,on,hS,-⟩:=HS.out.nd 0 qg;have hS0:Hid (u.cells[0]? =some (.slice (some ⟨bn,on,none⟩) u.n u.c)):=hide (by rw[←hS];rfl);obtain⟨HN1,hn1⟩:=vU HS.out hS (k:=i+1) hi;have HD:=hide (HN1.out 2 _ rfl);have idd:=hn1.2.2.1;obtain⟨ba,oa,rfl⟩:=gJ HA.out qg;obtain⟨bb,ob,rfl⟩:=gJ HB.out qg;have ifa:=(zE HA.out hi).2;have ifb:=(zE HB.out hi).2;clear hS hn1;go_enter Tryz.func60,Tryz.ntmps60;go_upto_region 0 with fail;refine qj ?_;go_cut [5,6,10] (fun s5 s6 s10 wx=>∃gu gp gr:Nat,s5= .pointer (some ⟨gu,0,none⟩)∧s6= .pointer (some ⟨gp,0,none⟩)∧s10= .pointer (some ⟨gr,0,none⟩)∧qF w wx [(gr,[Iv 0,Iv 0,Iv 0,Iv 0,Iv 0,Iv 0,Iv 0,Iv 0,Iv 0,Iv 0,Iv 0,Iv 0,.int .u8 0],74),(gp,p.cells,74),(gu,u.cells,42)])
 case first=>
  go_wp2_with(first|(refine qe ?_;clear hM;intro g W hM))
  all_goals
   go_meet;exact⟨_,_,_,rfl,rfl,rfl,hM⟩
 case rest=>
 clear hM;obtain⟨gu,gp,gr,rfl,rfl,rfl,hM⟩:=hcut;go_upto_region 2 with(first|(refine qe ?_;clear hM;intro g W hM)|(go_at_call 135;(with_reducible refine cx hM (ME u f (some ⟨ba,oa,none⟩) (some ⟨bb,ob,none⟩) qa qb fa fb i _ (hide (jO hM HS.out)) hi (hide (zW hM HA.out)) (hide (zW hM HB.out))) ?_);clear hM;rintro l W1 hl hM));obtain⟨gl,rfl⟩:=uC hM;have HL:=hide hl;have ila:qz l.al:=hl.1.1;have ilc:qz l.co:=hl.1.2.1;have ilt:qz l.ta:=hl.1.2.2.2.1;have hlp:=hl.2;clear hl;go_upto_region 3 with(first|(refine qe ?_;clear hM;intro g W hM)|(go_at_call 136;(with_reducible refine cx hM (Te u f i _ (hide (jO hM HS.out)) hi) ?_);clear hM;rintro⟨b0,b1,b2,b3,d0,d1⟩ W1 ⟨ib0,ib1,ib2,ib3,id0,id1⟩ hM;dsimp only at ib0 ib1 ib2 ib3 id0 id1;try dsimp only));obtain⟨gd,rfl⟩:=uC hM;obtain⟨gb,rfl⟩:=uC (qC hM);refine qj ?_;go_cut [15,16] (fun s15 s16 wx=>∃sl fs:Int,s15=Iv sl∧s16=Iv fs∧(qz sl∧qz fs)∧qF w wx [(gd,[Iv d0,Iv d1],72),(gb,[Iv b0,Iv b1,Iv b2,Iv b3],217),(gl,l.cells,214),(gr,[Iv 0,Iv 0,Iv 0,Iv 0,Iv 0,Iv 0,Iv 0,Iv 0,Iv 0,Iv 0,Iv 0,Iv 0,.int .u8 0],74),(gp,p.cells,74),(gu,u.cells,42)])
 case first=>
  as_aux_lemma=>
   refine qA [(gd,[Iv d0,Iv d1],72),(gb,[Iv b0,Iv b1,Iv b2,Iv b3],217),(gl,l.cells,214),(gr,[Iv 0,Iv 0,Iv 0,Iv 0,Iv 0,Iv 0,Iv 0,Iv 0,Iv 0,Iv 0,Iv 0,Iv 0,.int .u8 0],74),(gp,p.cells,74),(gu,u.cells,42)] hM qM ?_;(clear hM;intro W hM);refine rD 0 ?_;refine rD 1 ?_;refine rD 2 ?_;refine rD 3 ?_;refine rD 5 ?_;refine rD 6 ?_;refine rD 7 ?_;refine rD 8 ?_;refine dC 4 (fun K' hK'=> ?_);go_wp2_with(first|(go_at_call 137;(with_reducible refine cx hM (Yx l u _ _ ila) ?_);clear hM;rintro t W1 ⟨it,-⟩ hM));refine rK hK' hM ?_;clear hK' K';refine dC 9 (fun K' hK'=> ?_);go_wp2_with(first|(go_at_call 137;(with_reducible refine cx hM (Yx l u _ _ ila) ?_);clear hM;rintro t W1 ⟨it,-⟩ hM));refine rK hK' hM ?_;clear hK' K';refine rD 10 ?_;refine rD 11 ?_;refine qp qM ?_;go_wp2_with fail
   all_goals
    go_meet;exact⟨_,_,rfl,rfl,⟨qY,qY⟩,hM⟩
 case rest=>
 clear hM;obtain⟨sl,fs,rfl,rfl,⟨isl,ifs⟩,hM⟩:=hcut;go_upto_region 6 with(first|(refine qe ?_;clear hM;intro g W hM))
 all_goals first
  |(refine' qU hM rfl rfl Tryz.isAgg74 Tryz.sizeOf74 rfl rfl ?_ ?_ ?_;rotate_left 2;(·repeat constructor);(·rfl);(·exact⟨(PF,10),rfl,Ki ⟨qG,qG⟩ rfl,hM.below⟩))
  |skip
 all_goals
  refine qj ?_;go_cut [17] (fun s wx=>∃gq:Nat,s= .pointer (some ⟨gq,0,none⟩)∧qF w wx [(gq,[Iv (fa (i+1)),Iv (fb (i+1)),Iv l.ta,Iv 0,Iv 0,Iv 0,Iv 0,Iv 0,Iv 0,Iv 0,Iv 0,Iv 0,.int .u8 l.ph],74),(gd,[Iv d0,Iv d1],72),(gb,[Iv b0,Iv b1,Iv b2,Iv b3],217),(gl,l.cells,214),(gr,[Iv 0,Iv 0,Iv 0,Iv 0,Iv 0,Iv 0,Iv 0,Iv 0,Iv 0,Iv 0,Iv 0,Iv 0,.int .u8 0],74),(gp,p.cells,74),(gu,u.cells,42)])
  case first=>
   as_aux_lemma=>
    refine qA [(gd,[Iv d0,Iv d1],72),(gb,[Iv b0,Iv b1,Iv b2,Iv b3],217),(gl,l.cells,214),(gr,[Iv 0,Iv 0,Iv 0,Iv 0,Iv 0,Iv 0,Iv 0,Iv 0,Iv 0,Iv 0,Iv 0,Iv 0,.int .u8 0],74),(gp,p.cells,74),(gu,u.cells,42)] hM qM ?_;(clear hM;intro W hM);refine rD 0 ?_;refine rD 1 ?_;refine dP 2 (v:= .pointer (some ⟨ba,oa+(i+1),none⟩)) hM ?_ (hv:=by(intro W0;go_simp;first|done|omega|(intro h;exact absurd h qg)));refine qj ?_;refine jk 3 hM ((zE HA.out hi).1) ?_;refine qj ?_;refine rD 4 ?_;refine rD 5 ?_;refine dP 6 (v:= .pointer (some ⟨bb,ob+(i+1),none⟩)) hM ?_ (hv:=by(intro W0;go_simp;first|done|omega|(intro h;exact absurd h qg)));refine qj ?_;refine jk 7 hM ((zE HB.out hi).1) ?_;refine qj ?_;refine rD 8 ?_;refine rD 9 ?_;refine rD 10 ?_;refine rD 11 ?_;refine rD 12 ?_;refine dC 13 (fun K' hK'=> ?_);refine oN hM ?_;clear hM;intro g17 W hM;refine rK hK' hM ?_;clear hK' K';refine dC 14 (fun K' hK'=> ?_);refine oS hM ?_;clear hM;intro W hM;refine rK hK' hM ?_;clear hK' K';refine qp qM ?_;go_wp2_with fail
    all_goals
     go_meet;exact⟨_,rfl,hM⟩
  case rest=>
  clear hM;obtain⟨gq,rfl,hM⟩:=hcut;go_upto_region 9 with(first|(refine qe ?_;clear hM;intro g W hM)|(go_at_call 138;(with_reducible refine cx hM (pP l _ _ _ ilc) ?_);clear hM;rintro⟨gr_,e8⟩ W1 ⟨igr,ie8,hgr⟩ hM;dsimp only at igr ie8 hgr;try dsimp only));have HGR:=hide hgr;clear hgr;by_cases h8:e8=0;rotate_left
  ·have h8b:(e8 !=0)=true:=by simpa using h8
   clear h8;go_wp2_with(first|(refine qe ?_;clear hM;intro g W hM))
   all_goals(refine' qU hM rfl rfl Tryz.isAgg74 Tryz.sizeOf74 rfl rfl ?_ ?_ ?_;rotate_left 2;(·repeat constructor);(·rfl);(·exact⟨(PF,e8),rfl,Ki ie8 h8b,hM.below⟩))
  subst h8;have hg1:=hide (HGR.out rfl);clear HGR;go_upto_region 12 with(first|(refine qe ?_;clear hM;intro g W hM)|(go_at_call 139;(with_reducible refine cx hM (mE _ _ _ _ _ _ _ _ ilc ib0 ib1 ib2 ib3) ?_);clear hM;rintro⟨c0,c1,e11⟩ W1 ⟨ic0,ic1,ie11⟩ hM;dsimp only at ic0 ic1 ie11;try dsimp only));by_cases h11:e11=0;rotate_left
  ·have h11b:(e11 !=0)=true:=by simpa using h11
   clear h11;go_wp2_with(first|(refine qe ?_;clear hM;intro g W hM))
   all_goals(refine' qU hM rfl rfl Tryz.isAgg74 Tryz.sizeOf74 rfl rfl ?_ ?_ ?_;rotate_left 2;(·repeat constructor);(·rfl);(·exact⟨(PF,e11),rfl,Ki ie11 h11b,hM.below⟩))
  subst h11;go_upto_region 16 with(first|(go_at_call 140;(with_reducible refine cx hM (Zr _ _ _ idd igr) ?_);clear hM;rintro n W1 ⟨inn,hn⟩ hM;have HT:=hide hn;clear hn)|((with_reducible refine lX ?_);refine yR hM rfl rfl rfl hS0.out (ur rfl) ?_)|((with_reducible refine lX ?_);refine zD hM rfl (by first|exact rfl|(go_simp;done)) rfl (ur rfl) HD.out ?_)|(refine qe ?_;clear hM;intro g W hM));refine qj ?_;go_cut [21] (fun s wx=>∃(gt:Nat) (ta tb:Int),s= .pointer (some ⟨gt,0,none⟩)∧(qz ta∧qz tb)∧qF w wx ((gt,[Iv ta,Iv tb],72)::[(gq,[Iv (fa (i+1)),Iv (fb (i+1)),Iv l.ta,Iv gr_,Iv 0,Iv 0,Iv c0,Iv c1,Iv 0,Iv 0,Iv 0,Iv 0,.int .u8 l.ph],74),(gd,[Iv d0,Iv d1],72),(gb,[Iv b0,Iv b1,Iv b2,Iv b3],217),(gl,l.cells,214),(gr,[Iv 0,Iv 0,Iv 0,Iv 0,Iv 0,Iv 0,Iv 0,Iv 0,Iv 0,Iv 0,Iv 0,Iv 0,.int .u8 0],74),(gp,p.cells,74),(gu,u.cells,42)]))
  case first=>
   as_aux_lemma=>
    refine qA [(gq,[Iv (fa (i+1)),Iv (fb (i+1)),Iv l.ta,Iv gr_,Iv 0,Iv 0,Iv c0,Iv c1,Iv 0,Iv 0,Iv 0,Iv 0,.int .u8 l.ph],74),(gd,[Iv d0,Iv d1],72),(gb,[Iv b0,Iv b1,Iv b2,Iv b3],217),(gl,l.cells,214),(gr,[Iv 0,Iv 0,Iv 0,Iv 0,Iv 0,Iv 0,Iv 0,Iv 0,Iv 0,Iv 0,Iv 0,Iv 0,.int .u8 0],74),(gp,p.cells,74),(gu,u.cells,42)] hM qM ?_;(clear hM;intro W hM);refine rD 0 ?_;refine rD 1 ?_;refine rD 2 ?_;refine rD 3 ?_;refine rD 5 ?_;refine rD 6 ?_;refine rD 7 ?_;refine rD 8 ?_;refine dT 4 11 (fun K' hK'=> ?_) (fun K' hK'=> ?_)
    ·
     go_wp2_with(first|(go_at_call 140;(with_reducible refine cx hM (Zr _ _ _ idd qY) ?_);clear hM;rintro m W1 ⟨im,-⟩ hM));refine rK hK' hM ?_;clear hK' K';refine dT 9 11 (fun K' hK'=> ?_) (fun K' hK'=> ?_)
     ·
      go_wp2_with(first|(go_at_call 140;(with_reducible refine cx hM (Zr _ _ _ idd qY) ?_);clear hM;rintro m W1 ⟨im,-⟩ hM));refine rK hK' hM ?_;clear hK' K';refine rD 10 ?_;refine dC 11 (fun K' hK'=> ?_);refine oN hM ?_;clear hM;intro g21 W hM;refine rK hK' hM ?_;clear hK' K';refine dC 12 (fun K' hK'=> ?_);refine oS hM ?_;clear hM;intro W hM;refine rK hK' hM ?_;clear hK' K';refine qp qM ?_;go_wp2_with fail
      all_goals
       go_meet
       first
        |exact⟨_,_,_,rfl,⟨qY,qY⟩,hM⟩
        |exact⟨_,_,_,rfl,⟨qY,qY⟩,qW hM (List.Perm.swap _ _ _)⟩
     ·
      refine oN hM ?_;clear hM;intro g21 W hM;refine rK hK' hM ?_;clear hK' K';refine dC 9 (fun K' hK'=> ?_);go_wp2_with(first|(go_at_call 140;(with_reducible refine cx hM (Zr _ _ _ idd qY) ?_);clear hM;rintro m W1 ⟨im,-⟩ hM));refine rK hK' hM ?_;clear hK' K';refine rD 10 ?_;refine dC 12 (fun K' hK'=> ?_);refine oS hM ?_;clear hM;intro W hM;refine rK hK' hM ?_;clear hK' K';refine qp qM ?_;go_wp2_with fail
      all_goals
       go_meet
       first
        |exact⟨_,_,_,rfl,⟨qY,qY⟩,hM⟩
        |exact⟨_,_,_,rfl,⟨qY,qY⟩,qW hM (List.Perm.swap _ _ _)⟩
    ·
     refine oN hM ?_;clear hM;intro g21 W hM;refine rK hK' hM ?_;clear hK' K';refine dC 4 (fun K' hK'=> ?_);go_wp2_with(first|(go_at_call 140;(with_reducible refine cx hM (Zr _ _ _ idd qY) ?_);clear hM;rintro m W1 ⟨im,-⟩ hM));refine rK hK' hM ?_;clear hK' K';refine dC 9 (fun K' hK'=> ?_);go_wp2_with(first|(go_at_call 140;(with_reducible refine cx hM (Zr _ _ _ idd qY) ?_);clear hM;rintro m W1 ⟨im,-⟩ hM));refine rK hK' hM ?_;clear hK' K';refine rD 10 ?_;refine dC 12 (fun K' hK'=> ?_);refine oS hM ?_;clear hM;intro W hM;refine rK hK' hM ?_;clear hK' K';refine qp qM ?_;go_wp2_with fail
     all_goals
      go_meet
      first
       |exact⟨_,_,_,rfl,⟨qY,qY⟩,hM⟩
       |exact⟨_,_,_,rfl,⟨qY,qY⟩,qW hM (List.Perm.swap _ _ _)⟩
  case rest=>
  clear hM;obtain⟨gt,ta,tb,rfl,⟨ita,itb⟩,hM⟩:=hcut;go_upto_region 17 with fail;refine qj ?_;go_cut [] (fun wx=>∃tt:Int,Hid (tt=wrap64 (p.ti+n))∧qF w wx [(gt,[Iv ta,Iv tb],72),(gq,[Iv (fa (i+1)),Iv (fb (i+1)),Iv l.ta,Iv gr_,Iv tt,Iv 0,Iv c0,Iv c1,Iv 0,Iv 0,Iv 0,Iv 0,.int .u8 l.ph],74),(gd,[Iv d0,Iv d1],72),(gb,[Iv b0,Iv b1,Iv b2,Iv b3],217),(gl,l.cells,214),(gr,[Iv 0,Iv 0,Iv 0,Iv 0,Iv 0,Iv 0,Iv 0,Iv 0,Iv 0,Iv 0,Iv 0,Iv 0,.int .u8 0],74),(gp,p.cells,74),(gu,u.cells,42)])
  case first=>
   go_wp2_with(first|(refine qe ?_;clear hM;intro g W hM))
   all_goals
    go_meet;exact⟨_,hide (by first|rfl|exact IntWalk.i64_left _),hM⟩
  case rest=>
  clear hM;obtain⟨tt,HTT,hM⟩:=hcut;go_upto_region 18 with fail;refine qj ?_;go_cut [] (fun wx=>∃ua ub:Int,(qz ua∧qz ub)∧qF w wx [(gt,[Iv ta,Iv tb],72),(gq,[Iv (fa (i+1)),Iv (fb (i+1)),Iv l.ta,Iv gr_,Iv tt,Iv 0,Iv c0,Iv c1,Iv ua,Iv ub,Iv 0,Iv 0,.int .u8 l.ph],74),(gd,[Iv d0,Iv d1],72),(gb,[Iv b0,Iv b1,Iv b2,Iv b3],217),(gl,l.cells,214),(gr,[Iv 0,Iv 0,Iv 0,Iv 0,Iv 0,Iv 0,Iv 0,Iv 0,Iv 0,Iv 0,Iv 0,Iv 0,.int .u8 0],74),(gp,p.cells,74),(gu,u.cells,42)])
  case first=>
   go_wp2_with(first|(refine qe ?_;clear hM;intro g W hM))
   all_goals
    go_meet;exact⟨_,_,⟨by first|exact ze _|exact zi _,by first|exact ze _|exact zi _⟩,hM⟩
  case rest=>
  clear hM;obtain⟨ua,ub,⟨iua,iub⟩,hM⟩:=hcut;go_upto_region 19 with fail;refine qj ?_;go_cut [] (fun wx=>∃ff:Int,qz ff∧qF w wx [(gt,[Iv ta,Iv tb],72),(gq,[Iv (fa (i+1)),Iv (fb (i+1)),Iv l.ta,Iv gr_,Iv tt,Iv ff,Iv c0,Iv c1,Iv ua,Iv ub,Iv 0,Iv 0,.int .u8 l.ph],74),(gd,[Iv d0,Iv d1],72),(gb,[Iv b0,Iv b1,Iv b2,Iv b3],217),(gl,l.cells,214),(gr,[Iv 0,Iv 0,Iv 0,Iv 0,Iv 0,Iv 0,Iv 0,Iv 0,Iv 0,Iv 0,Iv 0,Iv 0,.int .u8 0],74),(gp,p.cells,74),(gu,u.cells,42)])
  case first=>
   as_aux_lemma=>
    refine qA [(gt,[Iv ta,Iv tb],72),(gd,[Iv d0,Iv d1],72),(gb,[Iv b0,Iv b1,Iv b2,Iv b3],217),(gl,l.cells,214),(gr,[Iv 0,Iv 0,Iv 0,Iv 0,Iv 0,Iv 0,Iv 0,Iv 0,Iv 0,Iv 0,Iv 0,Iv 0,.int .u8 0],74),(gp,p.cells,74),(gu,u.cells,42)] hM qM ?_;(clear hM;intro W hM);refine rD 0 ?_;refine rD 1 ?_;refine rD 2 ?_;refine rD 3 ?_;refine rD 4 ?_;refine rD 5 ?_;refine rD 6 ?_;refine rD 7 ?_;refine rD 8 ?_;refine dC 9 (fun K' hK'=> ?_);go_wp2_with(first|(go_at_call 141;(with_reducible refine cx hM (xG l u f _ _ _ ila hlp (hide (jO hM HS.out))) ?_);clear hM;rintro r W1 ⟨ir,-⟩ hM));refine rK hK' hM ?_;clear hK' K';refine rD 10 ?_;refine rD 11 ?_;refine rD 12 ?_;refine dC 13 (fun K' hK'=> ?_);refine oS hM ?_;clear hM;intro W hM;refine rK hK' hM ?_;clear hK' K';refine qp qM ?_;go_wp2_with fail
    all_goals
     go_meet;exact⟨_,by first|exact ze _|exact zi _,hM⟩
  case rest=>
  clear hM;obtain⟨ff,iff_,hM⟩:=hcut;by_cases h20:ff<0
  ·go_wp2_with(first|(refine qe ?_;clear hM;intro g W hM))
   all_goals(refine' qU hM rfl rfl Tryz.isAgg74 Tryz.sizeOf74 rfl rfl ?_ ?_ ?_;rotate_left 2;(·repeat constructor);(·rfl);(·exact⟨(PF,15),rfl,Ki ⟨qG,qG⟩ rfl,hM.below⟩))
  go_upto_region 22 with(first|(refine qe ?_;clear hM;intro g W hM));refine qj ?_;go_cut [22] (fun s wx=>∃(gf:Nat) (fl fh:Int),s= .pointer (some ⟨gf,0,none⟩)∧(qz fl∧qz fh)∧qF w wx ((gf,[Iv fl,Iv fh],72)::[(gt,[Iv ta,Iv tb],72),(gq,[Iv (fa (i+1)),Iv (fb (i+1)),Iv l.ta,Iv gr_,Iv tt,Iv ff,Iv c0,Iv c1,Iv ua,Iv ub,Iv 0,Iv 0,.int .u8 l.ph],74),(gd,[Iv d0,Iv d1],72),(gb,[Iv b0,Iv b1,Iv b2,Iv b3],217),(gl,l.cells,214),(gr,[Iv 0,Iv 0,Iv 0,Iv 0,Iv 0,Iv 0,Iv 0,Iv 0,Iv 0,Iv 0,Iv 0,Iv 0,.int .u8 0],74),(gp,p.cells,74),(gu,u.cells,42)]))
  case first=>
   as_aux_lemma=>
    refine qA [(gt,[Iv ta,Iv tb],72),(gq,[Iv (fa (i+1)),Iv (fb (i+1)),Iv l.ta,Iv gr_,Iv tt,Iv ff,Iv c0,Iv c1,Iv ua,Iv ub,Iv 0,Iv 0,.int .u8 l.ph],74),(gd,[Iv d0,Iv d1],72),(gb,[Iv b0,Iv b1,Iv b2,Iv b3],217),(gl,l.cells,214),(gr,[Iv 0,Iv 0,Iv 0,Iv 0,Iv 0,Iv 0,Iv 0,Iv 0,Iv 0,Iv 0,Iv 0,Iv 0,.int .u8 0],74),(gp,p.cells,74),(gu,u.cells,42)] hM qM ?_;(clear hM;intro W hM);refine rD 0 ?_;refine rD 1 ?_;refine rD 2 ?_;refine rD 3 ?_;refine rD 4 ?_;refine rD 5 ?_;refine rD 7 ?_;refine rD 8 ?_;refine rD 9 ?_;refine rD 10 ?_;refine rD 11 ?_;refine rD 12 ?_;refine dT 6 15 (fun K' hK'=> ?_) (fun K' hK'=> ?_)
    ·
     go_wp2_with(first|(go_at_call 141;(with_reducible refine cx hM (xG l u f _ _ _ ila hlp (hide (jO hM HS.out))) ?_);clear hM;rintro r W1 ⟨ir,-⟩ hM));refine rK hK' hM ?_;clear hK' K';refine dT 13 15 (fun K' hK'=> ?_) (fun K' hK'=> ?_)
     ·
      go_wp2_with(first|(go_at_call 141;(with_reducible refine cx hM (xG l u f _ _ _ ila hlp (hide (jO hM HS.out))) ?_);clear hM;rintro r W1 ⟨ir,-⟩ hM));refine rK hK' hM ?_;clear hK' K';refine rD 14 ?_;refine dC 15 (fun K' hK'=> ?_);refine oN hM ?_;clear hM;intro g22 W hM;refine rK hK' hM ?_;clear hK' K';refine dC 16 (fun K' hK'=> ?_);refine oS hM ?_;clear hM;intro W hM;refine rK hK' hM ?_;clear hK' K';refine qp qM ?_;go_wp2_with fail
      all_goals
       go_meet
       first
        |exact⟨_,_,_,rfl,⟨qY,qY⟩,hM⟩
        |exact⟨_,_,_,rfl,⟨qY,qY⟩,qW hM (List.Perm.swap _ _ _)⟩
     ·
      refine oN hM ?_;clear hM;intro g22 W hM;refine rK hK' hM ?_;clear hK' K';refine dC 13 (fun K' hK'=> ?_);go_wp2_with(first|(go_at_call 141;(with_reducible refine cx hM (xG l u f _ _ _ ila hlp (hide (jO hM HS.out))) ?_);clear hM;rintro r W1 ⟨ir,-⟩ hM));refine rK hK' hM ?_;clear hK' K';refine rD 14 ?_;refine dC 16 (fun K' hK'=> ?_);refine oS hM ?_;clear hM;intro W hM;refine rK hK' hM ?_;clear hK' K';refine qp qM ?_;go_wp2_with fail
      all_goals
       go_meet
       first
        |exact⟨_,_,_,rfl,⟨qY,qY⟩,hM⟩
        |exact⟨_,_,_,rfl,⟨qY,qY⟩,qW hM (List.Perm.swap _ _ _)⟩
    ·
     refine oN hM ?_;clear hM;intro g22 W hM;refine rK hK' hM ?_;clear hK' K';refine dC 6 (fun K' hK'=> ?_);go_wp2_with(first|(go_at_call 141;(with_reducible refine cx hM (xG l u f _ _ _ ila hlp (hide (jO hM HS.out))) ?_);clear hM;rintro r W1 ⟨ir,-⟩ hM));refine rK hK' hM ?_;clear hK' K';refine dC 13 (fun K' hK'=> ?_);go_wp2_with(first|(go_at_call 141;(with_reducible refine cx hM (xG l u f _ _ _ ila hlp (hide (jO hM HS.out))) ?_);clear hM;rintro r W1 ⟨ir,-⟩ hM));refine rK hK' hM ?_;clear hK' K';refine rD 14 ?_;refine dC 16 (fun K' hK'=> ?_);refine oS hM ?_;clear hM;intro W hM;refine rK hK' hM ?_;clear hK' K';refine qp qM ?_;go_wp2_with fail
     all_goals
      go_meet
      first
       |exact⟨_,_,_,rfl,⟨qY,qY⟩,hM⟩
       |exact⟨_,_,_,rfl,⟨qY,qY⟩,qW hM (List.Perm.swap _ _ _)⟩
  case rest=>
  clear hM;obtain⟨gf,fl,fh,rfl,⟨ifl,ifh⟩,hM⟩:=hcut;go_upto_region 24 with(first|(refine qe ?_;clear hM;intro g W hM)|(go_at_call 142;(with_reducible refine cx hM (iA _ _ _ _ _ _ _) ?_);clear hM;rintro⟨z0,z1,e23⟩ W1 ⟨iz0,iz1,ie23⟩ hM;dsimp only at iz0 iz1 ie23;try dsimp only));by_cases h23:e23=0;rotate_left
  ·have h23b:(e23 !=0)=true:=by simpa using h23
   clear h23;go_wp2_with(first|(refine qe ?_;clear hM;intro g W hM))
   all_goals(refine' qU hM rfl rfl Tryz.isAgg74 Tryz.sizeOf74 rfl rfl ?_ ?_ ?_;rotate_left 2;(·repeat constructor);(·rfl);(·exact⟨(PF,e23),rfl,Ki ie23 h23b,hM.below⟩))
  subst h23;have itt:qz tt:=by rw[HTT.out];exact zi _
  go_wp2_with(first|(refine qe ?_;clear hM;intro g W hM))
  all_goals(refine' qU hM rfl rfl Tryz.isAgg74 Tryz.sizeOf74 rfl rfl ?_ ?_ ?_;rotate_left 2;(·repeat constructor);(·rfl);(·exact⟨(⟨fa (i+1),fb (i+1),l.ta,gr_,tt,ff,c0,c1,ua,ub,z0,z1,l.ph⟩,0),rfl,⟨⟨ifa,ifb,ilt,igr,itt,iff_,ic0,ic1,iua,iub,iz0,iz1⟩,zg,fun _=>⟨rfl,hg1.out,by rw[HTT.out,HT.out]⟩⟩,hM.below⟩))
end Go.Proofs.YtiegohjobhehcaaGreatDoor
