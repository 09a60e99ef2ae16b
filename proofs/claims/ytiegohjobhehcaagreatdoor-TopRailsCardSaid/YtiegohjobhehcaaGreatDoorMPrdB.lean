/-
  What the forecast allows on a leg; its least time.
-/
import Derived.Test.YtiegohjobhehcaaGreatDoorMConsD
import Derived.Test.YtiegohjobhehcaaGreatDoorMHull
import Derived.Test.YtiegohjobhehcaaGreatDoorMPrdA
set_option maxRecDepth 100000
set_option maxHeartbeats 16000000
namespace Go.Proofs.YtiegohjobhehcaaGreatDoor
open Go.RowKit
set_option linter.unusedVariables false
set_option linter.unusedSimpArgs false
theorem Te(u:Su)(f:Nat→Nd)(i:Nat)(w:World)(HS:Hid (xF w u f))(hi:i+1<u.n):Calls Tryz.prog 136 #[.agg u.cells.toArray,Iv ((i:Int)+1)] w (bR (fun r:Int×Int×Int×Int×Int×Int=> .tuple #[.agg #[Iv r.1,Iv r.2.1,Iv r.2.2.1,Iv r.2.2.2.1],.agg #[Iv r.2.2.2.2.1,Iv r.2.2.2.2.2]]) (fun r=>qz r.1∧qz r.2.1∧qz r.2.2.1∧qz r.2.2.2.1∧qz r.2.2.2.2.1∧qz r.2.2.2.2.2) w):=by
 have hM:=qo w;have hn63:=HS.out.n63;unfold maxLen at hn63;obtain⟨bn,on,hS,-⟩:=HS.out.nd 0 qg;have hS0:Hid (u.cells[0]? =some (.slice (some ⟨bn,on,none⟩) u.n u.c)):=hide (by rw[←hS];rfl);obtain⟨HN0,-⟩:=vU HS.out hS (k:=i) qg;obtain⟨HN1,-⟩:=vU HS.out hS (k:=i+1) hi;have wm:=zT (x:=(i:Int)+1-1) (y:=(i:Int)) qg qg;clear hS;go_enter Tryz.func136,Tryz.ntmps136;go_upto_region 0 with fail;refine qj ?_;go_cut [2,4,5] (fun s2 s4 s5 wx=>∃gu g4 g5:Nat,s2= .pointer (some ⟨gu,0,none⟩)∧s4= .pointer (some ⟨g4,0,none⟩)∧s5= .pointer (some ⟨g5,0,none⟩)∧qF w wx ([(g5,[Iv 0,Iv 0],72),(g4,[Iv 0,Iv 0,Iv 0,Iv 0],217),(gu,u.cells,42)]))
 case first=>
  go_wp2_with(first|(refine qe ?_;clear hM;intro g W hM))
  all_goals
   go_meet;exact⟨_,_,_,rfl,rfl,rfl,hM⟩
 case rest=>
 clear hM;obtain⟨gu,g4,g5,rfl,rfl,rfl,hM⟩:=hcut;go_upto_region 1 with fail;refine qj ?_;go_cut [6,7] (fun s6 s7 wx=>∃(g6 g7:Nat) (a b c d p q:Int),s6= .pointer (some ⟨g6,0,none⟩)∧s7= .pointer (some ⟨g7,0,none⟩)∧(qz a∧qz b∧qz c∧qz d∧qz p∧qz q)∧qF w wx [(g7,[Iv p,Iv q],72),(g6,[Iv a,Iv b,Iv c,Iv d],217),(g5,[Iv 0,Iv 0],72),(g4,[Iv 0,Iv 0,Iv 0,Iv 0],217),(gu,u.cells,42)])
 case first=>
  as_aux_lemma=>
   refine qA [(gu,u.cells,42)] hM qM ?_;(clear hM;intro W hM);refine rD 0 ?_;refine rD 1 ?_;refine rD 2 ?_;refine dL 3 hM ?_ (hv:=hS0.out);refine qj ?_;refine rD 4 ?_;refine dP 5 (v:=Iv ((i:Int))) hM ?_ (hv:=by(intro W0;go_simp<;>first|assumption|rfl|exact zT qg qg));refine qj ?_;refine dP 6 (v:= .pointer (some ⟨bn,on+i*7,none⟩)) hM ?_ (hv:=by(intro W0;go_simp;first|done|omega|(intro h;exact absurd h qg)));refine qj ?_;refine rD 7 ?_;refine Qp 8 hM (fun j v hj=>HN0.out j v (Td hj)) ?_;refine qj ?_;refine rD 9 ?_;refine dL 10 hM ?_ (hv:=hS0.out);refine qj ?_;refine rD 11 ?_;refine dP 12 (v:= .pointer (some ⟨bn,on+(i+1)*7,none⟩)) hM ?_ (hv:=by(intro W0;go_simp;first|done|omega|(intro h;exact absurd h qg)));refine qj ?_;refine rD 13 ?_;refine Qp 14 hM (fun j v hj=>HN1.out j v (Td hj)) ?_;refine qj ?_;refine rD 15 ?_;refine rD 16 ?_;refine rD 17 ?_;refine Lm [18,23,24] ?_;refine Wc (fun K' hK'=> ?_) ?_
   ·
    go_wp2_with(first|(go_at_call 191;(with_reducible refine cx hM (VH u.gd _ _ _ _ _ _ _ (hide (zZ hM HS.out.gd))) ?_);clear hM;rintro⟨a,b,c,d,p,q,r⟩ W1 ⟨ia,ib,ic,id_,ip,iq,ir⟩ hM;try dsimp only));refine rK hK' hM ?_;clear hK' K';refine rD 19 ?_;refine rD 20 ?_;refine rD 21 ?_;refine rD 22 ?_;refine dT 23 24 (fun K' hK'=> ?_) (fun K' hK'=> ?_)
    ·
     refine oN hM ?_;clear hM;intro g6 W hM;refine rK hK' hM ?_;clear hK' K';refine dC 24 (fun K' hK'=> ?_);refine oN hM ?_;clear hM;intro g7 W hM;refine rK hK' hM ?_;clear hK' K';refine dC 25 (fun K' hK'=> ?_);refine oS hM ?_;clear hM;intro W hM;refine rK hK' hM ?_;clear hK' K';refine dC 26 (fun K' hK'=> ?_);refine oS hM ?_;clear hM;intro W hM;refine rK hK' hM ?_;clear hK' K';refine rD 27 ?_;refine qp qM ?_;go_wp2_with fail
     all_goals
      go_meet
      first
       |exact⟨_,_,_,_,_,_,_,_,rfl,rfl,⟨ia,ib,ic,id_,ip,iq⟩,hM⟩
       |exact⟨_,_,_,_,_,_,_,_,rfl,rfl,⟨ia,ib,ic,id_,ip,iq⟩,qW hM (List.Perm.swap _ _ _)⟩
    ·
     refine oN hM ?_;clear hM;intro g7 W hM;refine rK hK' hM ?_;clear hK' K';refine dC 23 (fun K' hK'=> ?_);refine oN hM ?_;clear hM;intro g6 W hM;refine rK hK' hM ?_;clear hK' K';refine dC 25 (fun K' hK'=> ?_);refine oS hM ?_;clear hM;intro W hM;refine rK hK' hM ?_;clear hK' K';refine dC 26 (fun K' hK'=> ?_);refine oS hM ?_;clear hM;intro W hM;refine rK hK' hM ?_;clear hK' K';refine rD 27 ?_;refine qp qM ?_;go_wp2_with fail
     all_goals
      go_meet
      first
       |exact⟨_,_,_,_,_,_,_,_,rfl,rfl,⟨ia,ib,ic,id_,ip,iq⟩,hM⟩
       |exact⟨_,_,_,_,_,_,_,_,rfl,rfl,⟨ia,ib,ic,id_,ip,iq⟩,qW hM (List.Perm.swap _ _ _)⟩
   refine Wc (fun K' hK'=> ?_) ?_
   ·
    refine oN hM ?_;clear hM;intro g6 W hM;refine rK hK' hM ?_;clear hK' K';refine dT 18 24 (fun K' hK'=> ?_) (fun K' hK'=> ?_)
    ·
     go_wp2_with(first|(go_at_call 191;(with_reducible refine cx hM (VH u.gd _ _ _ _ _ _ _ (hide (zZ hM HS.out.gd))) ?_);clear hM;rintro⟨a,b,c,d,p,q,r⟩ W1 ⟨ia,ib,ic,id_,ip,iq,ir⟩ hM;try dsimp only));refine rK hK' hM ?_;clear hK' K';refine rD 19 ?_;refine rD 20 ?_;refine rD 21 ?_;refine rD 22 ?_;refine dC 24 (fun K' hK'=> ?_);refine oN hM ?_;clear hM;intro g7 W hM;refine rK hK' hM ?_;clear hK' K';refine dC 25 (fun K' hK'=> ?_);refine oS hM ?_;clear hM;intro W hM;refine rK hK' hM ?_;clear hK' K';refine dC 26 (fun K' hK'=> ?_);refine oS hM ?_;clear hM;intro W hM;refine rK hK' hM ?_;clear hK' K';refine rD 27 ?_;refine qp qM ?_;go_wp2_with fail
     all_goals
      go_meet
      first
       |exact⟨_,_,_,_,_,_,_,_,rfl,rfl,⟨ia,ib,ic,id_,ip,iq⟩,hM⟩
       |exact⟨_,_,_,_,_,_,_,_,rfl,rfl,⟨ia,ib,ic,id_,ip,iq⟩,qW hM (List.Perm.swap _ _ _)⟩
    ·
     refine oN hM ?_;clear hM;intro g7 W hM;refine rK hK' hM ?_;clear hK' K';refine dC 18 (fun K' hK'=> ?_);go_wp2_with(first|(go_at_call 191;(with_reducible refine cx hM (VH u.gd _ _ _ _ _ _ _ (hide (zZ hM HS.out.gd))) ?_);clear hM;rintro⟨a,b,c,d,p,q,r⟩ W1 ⟨ia,ib,ic,id_,ip,iq,ir⟩ hM;try dsimp only));refine rK hK' hM ?_;clear hK' K';refine rD 19 ?_;refine rD 20 ?_;refine rD 21 ?_;refine rD 22 ?_;refine dC 25 (fun K' hK'=> ?_);refine oS hM ?_;clear hM;intro W hM;refine rK hK' hM ?_;clear hK' K';refine dC 26 (fun K' hK'=> ?_);refine oS hM ?_;clear hM;intro W hM;refine rK hK' hM ?_;clear hK' K';refine rD 27 ?_;refine qp qM ?_;go_wp2_with fail
     all_goals
      go_meet
      first
       |exact⟨_,_,_,_,_,_,_,_,rfl,rfl,⟨ia,ib,ic,id_,ip,iq⟩,hM⟩
       |exact⟨_,_,_,_,_,_,_,_,rfl,rfl,⟨ia,ib,ic,id_,ip,iq⟩,qW hM (List.Perm.swap _ _ _)⟩
   refine Wc (fun K' hK'=> ?_) ?_
   ·
    refine oN hM ?_;clear hM;intro g7 W hM;refine rK hK' hM ?_;clear hK' K';refine dT 18 23 (fun K' hK'=> ?_) (fun K' hK'=> ?_)
    ·
     go_wp2_with(first|(go_at_call 191;(with_reducible refine cx hM (VH u.gd _ _ _ _ _ _ _ (hide (zZ hM HS.out.gd))) ?_);clear hM;rintro⟨a,b,c,d,p,q,r⟩ W1 ⟨ia,ib,ic,id_,ip,iq,ir⟩ hM;try dsimp only));refine rK hK' hM ?_;clear hK' K';refine rD 19 ?_;refine rD 20 ?_;refine rD 21 ?_;refine rD 22 ?_;refine dC 23 (fun K' hK'=> ?_);refine oN hM ?_;clear hM;intro g6 W hM;refine rK hK' hM ?_;clear hK' K';refine dC 25 (fun K' hK'=> ?_);refine oS hM ?_;clear hM;intro W hM;refine rK hK' hM ?_;clear hK' K';refine dC 26 (fun K' hK'=> ?_);refine oS hM ?_;clear hM;intro W hM;refine rK hK' hM ?_;clear hK' K';refine rD 27 ?_;refine qp qM ?_;go_wp2_with fail
     all_goals
      go_meet
      first
       |exact⟨_,_,_,_,_,_,_,_,rfl,rfl,⟨ia,ib,ic,id_,ip,iq⟩,hM⟩
       |exact⟨_,_,_,_,_,_,_,_,rfl,rfl,⟨ia,ib,ic,id_,ip,iq⟩,qW hM (List.Perm.swap _ _ _)⟩
    ·
     refine oN hM ?_;clear hM;intro g6 W hM;refine rK hK' hM ?_;clear hK' K';refine dC 18 (fun K' hK'=> ?_);go_wp2_with(first|(go_at_call 191;(with_reducible refine cx hM (VH u.gd _ _ _ _ _ _ _ (hide (zZ hM HS.out.gd))) ?_);clear hM;rintro⟨a,b,c,d,p,q,r⟩ W1 ⟨ia,ib,ic,id_,ip,iq,ir⟩ hM;try dsimp only));refine rK hK' hM ?_;clear hK' K';refine rD 19 ?_;refine rD 20 ?_;refine rD 21 ?_;refine rD 22 ?_;refine dC 25 (fun K' hK'=> ?_);refine oS hM ?_;clear hM;intro W hM;refine rK hK' hM ?_;clear hK' K';refine dC 26 (fun K' hK'=> ?_);refine oS hM ?_;clear hM;intro W hM;refine rK hK' hM ?_;clear hK' K';refine rD 27 ?_;refine qp qM ?_;go_wp2_with fail
     all_goals
      go_meet
      first
       |exact⟨_,_,_,_,_,_,_,_,rfl,rfl,⟨ia,ib,ic,id_,ip,iq⟩,hM⟩
       |exact⟨_,_,_,_,_,_,_,_,rfl,rfl,⟨ia,ib,ic,id_,ip,iq⟩,qW hM (List.Perm.swap _ _ _)⟩
   exact AllReadyH.nil
 case rest=>
 clear hM;obtain⟨g6,g7,a,b,c,d,p,q,rfl,rfl,⟨ia,ib,ic,id_,ip,iq⟩,hM⟩:=hcut;go_upto_region 2 with(first|(refine qe ?_;clear hM;intro g W hM));refine qj ?_;refine qA [(g7,[Iv p,Iv q],72),(g6,[Iv a,Iv b,Iv c,Iv d],217)] hM qM ?_;(clear hM;intro W hM);refine rD 0 ?_;refine rD 1 ?_;refine dC 2 (fun K' hK'=> ?_);refine oS hM ?_;clear hM;intro W hM;refine rK hK' hM ?_;clear hK' K';refine dC 3 (fun K' hK'=> ?_);refine oS hM ?_;clear hM;intro W hM;refine rK hK' hM ?_;clear hK' K';refine qp qM ?_;go_wp2_with fail
 all_goals(refine FF (tg:=217) (th:=72) hM rfl rfl rfl Tryz.isAgg217 Tryz.sizeOf217 Tryz.isAgg72 Tryz.sizeOf72 rfl (by((repeat constructor)<;>fail)) (by((repeat constructor)<;>fail)) rfl rfl ?_;exact⟨(_,_,_,_,_,_),rfl,⟨ia,ib,ic,id_,ip,iq⟩,hM.below⟩)
theorem Ul(a b:Int)(w:World)(ha:qz a)(hb:qz b):Calls Tryz.prog 171 #[.agg #[Iv a,Iv b]] w (kY (fun _=>True) w):=by
 have hM:=qo w;go_enter Tryz.func171,Tryz.ntmps171;go_upto_region 0 with fail;refine qj ?_;go_cut [1] (fun s1 wx=>∃gi:Nat,s1= .pointer (some ⟨gi,0,none⟩)∧qF w wx [(gi,[Iv a,Iv b],72)])
 case first=>
  go_wp2_with(first|(refine qe ?_;clear hM;intro g W hM))
  all_goals
   go_meet;exact⟨_,rfl,hM⟩
 case rest=>
 clear hM;obtain⟨gi,rfl,hM⟩:=hcut;go_upto_region 1 with fail;refine qj ?_;refine qA [(gi,[Iv a,Iv b],72)] hM qM ?_;(clear hM;intro W hM);refine rD 0 ?_;refine rD 1 ?_;refine rD 3 ?_;refine rD 4 ?_;refine dC 2 (fun K' hK'=> ?_);go_wp2_with(first|(go_at_call 67;(with_reducible refine cx hM (lZ _ _ qY) ?_);clear hM;rintro r W1 ⟨hr,-⟩ hM));refine rK hK' hM ?_;clear hK' K';refine dC 5 (fun K' hK'=> ?_);go_wp2_with(first|(go_at_call 67;(with_reducible refine cx hM (lZ _ _ qY) ?_);clear hM;rintro r W1 ⟨hr,-⟩ hM));refine rK hK' hM ?_;clear hK' K';refine rD 6 ?_;refine rD 7 ?_;refine qp qM ?_;go_wp2_with fail
 all_goals
  (go_ret;exact⟨_,rfl,⟨ut qY qY,trivial⟩,hM.below⟩)
theorem MA(u:Su)(f:Nat→Nd)(i:Nat)(w:World)(HS:Hid (xF w u f))(hi:i+1<u.n):Calls Tryz.prog 104 #[.agg u.cells.toArray,Iv ((i:Int)+1)] w (kY (fun _=>True) w):=by
 have hM:=qo w;have hn63:=HS.out.n63;unfold maxLen at hn63;obtain⟨bn,on,hS,-⟩:=HS.out.nd 0 qg;have hS0:Hid (u.cells[0]? =some (.slice (some ⟨bn,on,none⟩) u.n u.c)):=hide (by rw[←hS];rfl);obtain⟨HN0,-⟩:=vU HS.out hS (k:=i) qg;obtain⟨HN1,hn1⟩:=vU HS.out hS (k:=i+1) hi;have HD:=hide (HN1.out 2 _ rfl);have wm:=zT (x:=(i:Int)+1-1) (y:=(i:Int)) qg qg;clear hS;go_enter Tryz.func104,Tryz.ntmps104;go_upto_region 0 with fail;refine qj ?_;go_cut [2] (fun s2 wx=>∃gu:Nat,s2= .pointer (some ⟨gu,0,none⟩)∧qF w wx [(gu,u.cells,42)])
 case first=>
  go_wp2_with(first|(refine qe ?_;clear hM;intro g W hM))
  all_goals
   go_meet;exact⟨_,rfl,hM⟩
 case rest=>
 clear hM;obtain⟨gu,rfl,hM⟩:=hcut;go_upto_region 2 with(first|(refine qe ?_;clear hM;intro g W hM)|(go_at_call 136;(with_reducible refine cx hM (Te u f i _ (hide (jO hM HS.out)) hi) ?_);clear hM;rintro⟨a,b,c,d,p,q⟩ W1 ⟨ia,ib,ic,id_,ip,iq⟩ hM;try dsimp only));refine qj ?_;obtain⟨g6,rfl⟩:=uC hM;obtain⟨g5,rfl⟩:=uC (qC hM);dsimp only at ia ib ic id_ ip iq;go_cut [7] (fun s wx=>∃n:Int,s=Iv n∧qF w wx [(g6,[Iv p,Iv q],72),(g5,[Iv a,Iv b,Iv c,Iv d],217),(gu,u.cells,42)])
 case first=>
  as_aux_lemma=>
   refine qA [(g6,[Iv p,Iv q],72),(g5,[Iv a,Iv b,Iv c,Iv d],217),(gu,u.cells,42)] hM qM ?_;(clear hM;intro W hM);refine rD 0 ?_;refine dL 1 hM ?_ (hv:=hS0.out);refine qj ?_;refine rD 2 ?_;refine dP 3 (v:=Iv ((i:Int))) hM ?_ (hv:=by(intro W0;go_simp<;>first|assumption|rfl|exact zT qg qg));refine qj ?_;refine dP 4 (v:= .pointer (some ⟨bn,on+i*7,none⟩)) hM ?_ (hv:=by(intro W0;go_simp;first|done|omega|(intro h;exact absurd h qg)));refine qj ?_;refine rD 5 ?_;refine rD 6 ?_;refine jk 7 hM (HN0.out 6 _ rfl) ?_;refine qj ?_;refine rD 8 ?_;refine rD 9 ?_;refine rD 10 ?_;refine rD 11 ?_;refine dL 12 hM ?_ (hv:=hS0.out);refine qj ?_;refine rD 13 ?_;refine dP 14 (v:= .pointer (some ⟨bn,on+(i+1)*7,none⟩)) hM ?_ (hv:=by(intro W0;go_simp;first|done|omega|(intro h;exact absurd h qg)));refine qj ?_;refine rD 15 ?_;refine rD 16 ?_;refine jk 17 hM (HN1.out 6 _ rfl) ?_;refine qj ?_;refine rD 18 ?_;refine rD 19 ?_;refine rD 20 ?_;refine rD 21 ?_;refine rD 22 ?_;refine rD 23 ?_;refine qp qM ?_;go_wp2_with fail
   all_goals
    go_meet;exact⟨_,rfl,hM⟩
 case rest=>
 clear hM;obtain⟨n7,rfl,hM⟩:=hcut;go_upto_region 4 with(first|(refine qe ?_;clear hM;intro g W hM)|(go_at_call 133;(with_reducible refine cx hM (DL _ _ _ _ HS.out.lev) ?_);clear hM;rintro⟨t,e⟩ W1 ⟨it,-⟩ hM;dsimp only at it;try dsimp only));refine qj ?_;go_cut [10] (fun s wx=>∃n:Int,s=Iv n∧qz n∧qF w wx [(g6,[Iv p,Iv q],72),(g5,[Iv a,Iv b,Iv c,Iv d],217),(gu,u.cells,42)])
 case first=>
  as_aux_lemma=>
   refine qA [(g6,[Iv p,Iv q],72),(g5,[Iv a,Iv b,Iv c,Iv d],217),(gu,u.cells,42)] hM qM ?_;(clear hM;intro W hM);refine rD 0 ?_;refine rD 1 ?_;refine rD 2 ?_;refine rD 5 ?_;refine rD 6 ?_;refine dC 3 (fun K' hK'=> ?_);go_wp2_with(first|(go_at_call 171;(with_reducible refine cx hM (Ul _ _ _ qY qY) ?_);clear hM;rintro gg W1 ⟨igg,-⟩ hM));refine rK hK' hM ?_;clear hK' K';refine rD 4 ?_;refine dC 7 (fun K' hK'=> ?_);go_wp2_with(first|(go_at_call 171;(with_reducible refine cx hM (Ul _ _ _ qY qY) ?_);clear hM;rintro gg W1 ⟨igg,-⟩ hM));refine rK hK' hM ?_;clear hK' K';refine rD 8 ?_;refine rD 9 ?_;refine qp qM ?_;go_wp2_with fail
   all_goals
    go_meet;exact⟨_,rfl,by first|exact zg|assumption|exact zi _|exact ze _|exact⟨qG,qG⟩,hM⟩
 case rest=>
 clear hM;obtain⟨n,rfl,hn,hM⟩:=hcut;by_cases hz:n=0
 ·subst hz;go_wp2_with(first|(refine qe ?_;clear hM;intro g W hM))
  all_goals(go_ret;exact⟨_,rfl,⟨⟨qG,qG⟩,trivial⟩,hM.below⟩)
 ·have hz1:(n==0)=false:=by simpa using hz
  go_wp2_with(first|((with_reducible refine lX ?_);refine yR hM rfl rfl rfl hS0.out (ur rfl) ?_)|((with_reducible refine lX ?_);refine zD hM rfl (by first|exact rfl|(go_simp;done)) rfl (ur rfl) HD.out ?_)|(refine qe ?_;clear hM;intro g W hM))
  all_goals(go_ret;exact⟨_,rfl,⟨by first|exact vu (ze _) ⟨qG,qG⟩|exact vu (zi _) ⟨qG,qG⟩,trivial⟩,hM.below⟩)
def ZE(f:Nat→Nd)(n:Nat):List (Int×Int):=lp n fun k=>((f k).al,(f k).ah)
theorem MB(n:Nat)(g:Nat→Int×Int):lp n g++[g n]=lp (n+1) g:=by unfold lp;rw[List.range_succ,List.map_append];rfl
theorem rS(u:Su)(f:Nat→Nd)(w:World)(HS:Hid (xF w u f))(hn:0<u.n)(hn64:u.n≤64):Calls Tryz.prog 49 #[.agg u.cells.toArray] w fun e w'=>∃(g cap:Nat) (cs:List Value),e= .returned (.slice (some ⟨g,0,none⟩) u.n cap)∧(u.n≤cap∧cap≤maxLen)∧PL cs (ZE f u.n)∧qF w w' [(g,cs,55)]:=by
 have hM:=qo w;have hn63:=HS.out.n63;unfold maxLen at hn63;obtain⟨bn,on,hS,-⟩:=HS.out.nd 0 qg;have hS0:Hid (u.cells[0]? =some (.slice (some ⟨bn,on,none⟩) u.n u.c)):=hide (by rw[←hS];rfl);have HSS:=hide hS;clear hS;go_enter Tryz.func49,Tryz.ntmps49;go_upto_region 0 with fail;refine qj ?_;go_cut [1] (fun s1 wx=>∃gu:Nat,s1= .pointer (some ⟨gu,0,none⟩)∧qF w wx [(gu,u.cells,42)])
 case first=>
  go_wp2_with(first|(refine qe ?_;clear hM;intro g W hM))
  all_goals
   go_meet;exact⟨_,rfl,hM⟩
 case rest=>
 clear hM;obtain⟨gu,rfl,hM⟩:=hcut;go_wp2_with(first|((with_reducible refine lX ?_);refine yR hM rfl rfl rfl hS0.out (ur rfl) ?_)|(refine qe ?_;clear hM;intro g W hM));go_loopw [3,9] (fun s3 s wx=>∃(k:Nat) (B:List qZ),k≤u.n∧s=Iv (k:Int)∧Hid (bZ 55 2 s3 (ZE f k).length ((ZE f k).flatMap UO) B)∧qF w wx ((gu,u.cells,42)::B)) (fun _ s _=>u.n-(intOf s).toNat)
 case atStart=>exact⟨0,[],by omega,rfl,hide .nil,hM⟩
 case round=>
  clear hM;obtain⟨k,B,hk,rfl,HO,hM⟩:=hrel;by_cases hlt:k<u.n
  ·obtain⟨HC,hi⟩:=vU HS.out HSS.out hlt;have hlen:(ZE f k).length≤64:=by unfold ZE;rw[QQ];omega
   go_upto_region 5 with(first|((with_reducible refine lX ?_);refine yL hM rfl (by first|exact rfl|(go_simp;done)) rfl (Zg rfl) HC.out (bQ rfl) ?_)|(refine qe ?_;clear hM;intro g W hM));obtain⟨g5,rfl⟩:=uC hM;go_wp2_with(first|((with_reducible refine uJ ?_);refine' yZ hM rfl rfl ?_ Tryz.underlying130 Ze ?_ qG qG ?_;rotate_left 1;(·constructor);(·rfl);(clear hM;intro g W hM))|((with_reducible refine kD ?_);refine kH UO (_,_) (R:=[(g5,(f k).cells,57),(gu,u.cells,42)]) hM rfl rfl rfl rfl HO Tryz.underlying130 Ze rfl rfl qG qG qg ?_;clear hM;intro V B' W HV hM)|(refine qe ?_;clear hM;intro g W hM))
   all_goals
    (go_roundw
     case rel=>exact⟨k+1,B',by omega,by go_num,hide (by have:=HV.out;rwa[show ZE f k++[((f k).al,(f k).ah)]=ZE f (k+1)from MB _ _]at this),uK hM (List.Sublist.cons _ (List.Sublist.refl _))⟩
     case measure=>simp[intOf];omega)
  ·obtain rfl:k=u.n:=qg;have hl:(ZE f u.n).length=u.n:=QQ _ _
   obtain⟨g,cap,cur,hV,hcap,rfl,hP⟩:=Vq HO.out qg (fun x hx=>by
    obtain⟨j,hj,rfl⟩:=List.mem_map.1 hx;have:=(vU HS.out HSS.out (List.mem_range.1 hj)).2
    exact⟨this.2.2.2.1,this.2.2.2.2.1⟩)
   rw[hl]at hV hcap;clear HO;subst hV;have HP:=hide hP;clear hP hl;go_wp2_with(first|(refine qe ?_;clear hM;intro g W hM))
   all_goals(go_ret;exact⟨g,cap,cur,rfl,hcap,HP.out,qC hM⟩)
end Go.Proofs.YtiegohjobhehcaaGreatDoor
