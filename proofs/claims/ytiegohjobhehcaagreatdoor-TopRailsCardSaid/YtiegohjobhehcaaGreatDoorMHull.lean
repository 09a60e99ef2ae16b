/-
  The winds that a forecast allows in a rectangle.
-/
import Derived.Test.YtiegohjobhehcaaGreatDoorMGridH
namespace Go.Proofs.YtiegohjobhehcaaGreatDoor
open Go.RowKit
set_option linter.unusedVariables false
set_option linter.unusedSimpArgs false
theorem fN(i f k:Int)(w:World):(Instr.field 207 (.agg #[Iv i,Iv f,Iv k]) 0).run Tryz.prog w= .ok (Iv i) w:=qM
theorem Ld(g:Nat):∀w:World,(Instr.index 289 (.agg #[.pointer (some ⟨g,0,none⟩),.pointer (some ⟨g,2,none⟩)]) (Iv 0)).run Tryz.prog w= .ok (.pointer (some ⟨g,0,none⟩)) w:=fun _=>by kernel_rfl
theorem Le(g:Nat):∀w:World,(Instr.index 289 (.agg #[.pointer (some ⟨g,0,none⟩),.pointer (some ⟨g,2,none⟩)]) (Iv 1)).run Tryz.prog w= .ok (.pointer (some ⟨g,2,none⟩)) w:=fun _=>by kernel_rfl
theorem wJ{a b c:Int}(h:b<c):min a b<c:=qg
set_option maxRecDepth 100000 in
set_option maxHeartbeats 8000000 in
theorem Fy(X0 Y0 ce nx ny er:Int)(SA SW SD:Option Addr)(an aq wn wq dn dq:Nat)(ax ay bx b_y lo hi:Int)(w:World)(HG:Hid (Zz w ⟨X0,Y0,ce,nx,ny,⟨SA,an,aq⟩,⟨SW,wn,wq⟩,⟨SD,dn,dq⟩,er⟩)):Calls Tryz.prog 191 #[.agg #[Iv X0,Iv Y0,Iv ce,Iv nx,Iv ny,.slice SA an aq,.slice SW wn wq,.slice SD dn dq,Iv er],.agg #[Iv ax,Iv ay],.agg #[Iv bx,Iv b_y],.agg #[Iv lo,Iv hi]] w (bR (fun r:Int×Int×Int×Int×Int×Int×Int=> .tuple #[.agg #[Iv r.1,Iv r.2.1,Iv r.2.2.1,Iv r.2.2.2.1],.agg #[Iv r.2.2.2.2.1,Iv r.2.2.2.2.2.1],Iv r.2.2.2.2.2.2]) (fun r=>qz r.1∧qz r.2.1∧qz r.2.2.1∧qz r.2.2.2.1∧qz r.2.2.2.2.1∧qz r.2.2.2.2.2.1∧qz r.2.2.2.2.2.2) w):=by
 have hM:=qo w;obtain⟨fa,FA⟩:=HG.out.al.2;obtain⟨fw,FW⟩:=HG.out.wi.2;obtain⟨fd,FD⟩:=HG.out.dv.2;dsimp only at FA FW FD;replace FA:=hide FA;replace FW:=hide FW;replace FD:=hide FD;have her:qz er:=HG.out.er;go_enter Tryz.func191,Tryz.ntmps191;go_upto_region 0 with fail;refine qj ?_;go_cut [4,5,6,7,8,9] (fun s4 s5 s6 s7 s8 s9 wx=>∃gp ga gb gw gr gi:Nat,s4= .pointer (some ⟨gp,0,none⟩)∧s5= .pointer (some ⟨ga,0,none⟩)∧s6= .pointer (some ⟨gb,0,none⟩)∧s7= .pointer (some ⟨gw,0,none⟩)∧s8= .pointer (some ⟨gr,0,none⟩)∧s9= .pointer (some ⟨gi,0,none⟩)∧qF w wx ([(gi,[Iv 0,Iv 0],72),(gr,[Iv 0,Iv 0,Iv 0,Iv 0],217),(gw,[Iv lo,Iv hi],55),(gb,[Iv bx,Iv b_y],26),(ga,[Iv ax,Iv ay],26),(gp,[Iv X0,Iv Y0,Iv ce,Iv nx,Iv ny,.slice SA an aq,.slice SW wn wq,.slice SD dn dq,Iv er],38)]))
 case first=>
  go_wp2_with(first|(refine qe ?_;clear hM;intro g W hM))
  all_goals
   go_meet;exact⟨_,_,_,_,_,_,rfl,rfl,rfl,rfl,rfl,rfl,hM⟩
 case rest=>
 clear hM;obtain⟨gp,ga,gb,gw,gr,gi,rfl,rfl,rfl,rfl,rfl,rfl,hM⟩:=hcut;go_upto_region 4 with(first|(refine qe ?_;clear hM;intro g W hM)|(go_at_call 116;(with_reducible refine Bq hM (Gi (gd:=⟨X0,Y0,ce,nx,ny,⟨SA,an,aq⟩,⟨SW,wn,wq⟩,⟨SD,dn,dq⟩,er⟩) hM HG) ?_ ?_)<;>(clear hM;first|(intro q W1 hq hz hz1 hM)|(intro W1 HK hM))))
 all_goals first
  |(refine Bb (tg:=217) (th:=72) hM rfl rfl rfl rfl Tryz.isAgg217 Tryz.sizeOf217 Tryz.isAgg72 Tryz.sizeOf72 rfl (by((repeat constructor)<;>fail)) (by((repeat constructor)<;>fail)) rfl rfl ?_;exact⟨(_,_,_,_,_,_,_),rfl,⟨by first|exact zg|assumption|exact zi _|exact ze _|exact⟨qG,qG⟩,by first|exact zg|assumption|exact zi _|exact ze _|exact⟨qG,qG⟩,by first|exact zg|assumption|exact zi _|exact ze _|exact⟨qG,qG⟩,by first|exact zg|assumption|exact zi _|exact ze _|exact⟨qG,qG⟩,by first|exact zg|assumption|exact zi _|exact ze _|exact⟨qG,qG⟩,by first|exact zg|assumption|exact zi _|exact ze _|exact⟨qG,qG⟩,by first|exact zg|assumption|exact zi _|exact ze _|exact⟨qG,qG⟩⟩,hM.below⟩)
  |skip
 refine qj ?_;go_cut [58] (fun s wx=>∃b,s= .bool b∧qF w wx [(gi,[Iv 0,Iv 0],72),(gr,[Iv 0,Iv 0,Iv 0,Iv 0],217),(gw,[Iv lo,Iv hi],55),(gb,[Iv bx,Iv b_y],26),(ga,[Iv ax,Iv ay],26),(gp,[Iv X0,Iv Y0,Iv ce,Iv nx,Iv ny,.slice SA an aq,.slice SW wn wq,.slice SD dn dq,Iv er],38)])
 case first=>
  as_aux_lemma=>
   go_wp2_with(first|(refine qe ?_;clear hM;intro g W hM)|(go_at_call 119;(with_reducible refine uD hM (Yo _ _ _) ?_ ?_)<;>(clear hM;intro W1 hb hM;clear hb)))
   all_goals
    go_meet;exact⟨_,rfl,hM⟩
 case rest=>
 clear hM;obtain⟨b,rfl,hM⟩:=hcut;rcases b with _|_;rotate_left
 ·go_wp2_with(first|(refine qe ?_;clear hM;intro g W hM))
  all_goals(refine Bb (tg:=217) (th:=72) hM rfl rfl rfl rfl Tryz.isAgg217 Tryz.sizeOf217 Tryz.isAgg72 Tryz.sizeOf72 rfl (by((repeat constructor)<;>fail)) (by((repeat constructor)<;>fail)) rfl rfl ?_;exact⟨(_,_,_,_,_,_,_),rfl,⟨by first|exact zg|assumption|exact zi _|exact ze _|exact⟨qG,qG⟩,by first|exact zg|assumption|exact zi _|exact ze _|exact⟨qG,qG⟩,by first|exact zg|assumption|exact zi _|exact ze _|exact⟨qG,qG⟩,by first|exact zg|assumption|exact zi _|exact ze _|exact⟨qG,qG⟩,by first|exact zg|assumption|exact zi _|exact ze _|exact⟨qG,qG⟩,by first|exact zg|assumption|exact zi _|exact ze _|exact⟨qG,qG⟩,by first|exact zg|assumption|exact zi _|exact ze _|exact⟨qG,qG⟩⟩,hM.below⟩)
 go_upto_region 6 with fail;have n6:1≤nx∧nx≤16:=HK.out.nx;have n7:1≤ny∧ny≤16:=HK.out.ny;have n8:1≤an∧an≤8:=HK.out.al;have w6:=IntWalk.i64_in (nx-1) qg;have w7:=IntWalk.i64_in (ny-1) qg;have w8:=IntWalk.i64_in ((an:Int)-1) qg;refine qj ?_;go_cut [12,13] (fun s1 s2 wx=>∃p q:Int,s1=Iv p∧s2=Iv q∧(0≤p∧p<nx)∧q<nx∧qF w wx [(gi,[Iv 0,Iv 0],72),(gr,[Iv 0,Iv 0,Iv 0,Iv 0],217),(gw,[Iv lo,Iv hi],55),(gb,[Iv bx,Iv b_y],26),(ga,[Iv ax,Iv ay],26),(gp,[Iv X0,Iv Y0,Iv ce,Iv nx,Iv ny,.slice SA an aq,.slice SW wn wq,.slice SD dn dq,Iv er],38)])
 case first=>
  as_aux_lemma=>
   refine qA [(gw,[Iv lo,Iv hi],55),(gb,[Iv bx,Iv b_y],26),(ga,[Iv ax,Iv ay],26),(gp,[Iv X0,Iv Y0,Iv ce,Iv nx,Iv ny,.slice SA an aq,.slice SW wn wq,.slice SD dn dq,Iv er],38)] hM qM ?_;(clear hM;intro W hM);refine rD 0 ?_;refine rD 1 ?_;refine rD 2 ?_;refine rD 3 ?_;refine rD 4 ?_;refine rD 5 ?_;refine rD 6 ?_;refine rD 7 ?_;refine rD 8 ?_;refine rD 9 ?_;refine rD 10 ?_;refine rD 11 ?_;refine rD 14 ?_;refine rD 15 ?_;refine rD 16 ?_;refine rD 17 ?_;refine rD 18 ?_;refine rD 19 ?_;refine rD 20 ?_;refine rD 21 ?_;refine rD 22 ?_;refine rD 23 ?_;refine rD 24 ?_;refine rD 25 ?_;refine rD 29 ?_;refine rD 30 ?_;refine rD 31 ?_;refine dC 12 (fun K' hK'=> ?_);go_wp2_with(first|(go_at_call 121;(with_reducible refine cx hM (Yp X0 ce nx _ _ HK.out.cx HK.out.ce HK.out.nx) ?_);clear hM;rintro⟨i,f,k⟩ W1 ⟨hsp,-⟩ hM;dsimp only at hsp;try dsimp only));refine rK hK' hM ?_;clear hK' K';refine dP 13 hM ?_ (hv:=by(intro W0;go_simp;rw[fN];rfl));refine qj ?_;refine dC 26 (fun K' hK'=> ?_);go_wp2_with(first|(go_at_call 121;(with_reducible refine cx hM (Yp X0 ce nx _ _ HK.out.cx HK.out.ce HK.out.nx) ?_);clear hM;rintro⟨i,f,k⟩ W1 ⟨hsp,-⟩ hM;dsimp only at hsp;try dsimp only));refine rK hK' hM ?_;clear hK' K';refine dP 27 hM ?_ (hv:=by(intro W0;go_simp;rw[fN];rfl));refine qj ?_;refine rD 28 ?_;refine rD 32 ?_;refine rD 33 ?_;refine rD 34 ?_;refine qp qM ?_;go_wp2_with fail
   all_goals
    go_meet;exact⟨_,_,rfl,rfl,⟨qg,qg⟩,wJ qg,hM⟩
 case rest=>
 clear hM;obtain⟨p6,q6,rfl,rfl,hp6,hq6,hM⟩:=hcut;go_upto_region 7 with(first|(refine qe ?_;clear hM;intro g W hM));refine qj ?_;go_cut [14,15] (fun s1 s2 wx=>∃p q:Int,s1=Iv p∧s2=Iv q∧(0≤p∧p<ny)∧q<ny∧qF w wx [(gi,[Iv 0,Iv 0],72),(gr,[Iv 0,Iv 0,Iv 0,Iv 0],217),(gw,[Iv lo,Iv hi],55),(gb,[Iv bx,Iv b_y],26),(ga,[Iv ax,Iv ay],26),(gp,[Iv X0,Iv Y0,Iv ce,Iv nx,Iv ny,.slice SA an aq,.slice SW wn wq,.slice SD dn dq,Iv er],38)])
 case first=>
  as_aux_lemma=>
   refine qA [(gw,[Iv lo,Iv hi],55),(gb,[Iv bx,Iv b_y],26),(ga,[Iv ax,Iv ay],26),(gp,[Iv X0,Iv Y0,Iv ce,Iv nx,Iv ny,.slice SA an aq,.slice SW wn wq,.slice SD dn dq,Iv er],38)] hM qM ?_;(clear hM;intro W hM);refine rD 0 ?_;refine rD 1 ?_;refine rD 2 ?_;refine rD 3 ?_;refine rD 4 ?_;refine rD 5 ?_;refine rD 6 ?_;refine rD 7 ?_;refine rD 8 ?_;refine rD 9 ?_;refine rD 10 ?_;refine rD 11 ?_;refine rD 14 ?_;refine rD 15 ?_;refine rD 16 ?_;refine rD 17 ?_;refine rD 18 ?_;refine rD 19 ?_;refine rD 20 ?_;refine rD 21 ?_;refine rD 22 ?_;refine rD 23 ?_;refine rD 24 ?_;refine rD 25 ?_;refine rD 29 ?_;refine rD 30 ?_;refine rD 31 ?_;refine dC 12 (fun K' hK'=> ?_);go_wp2_with(first|(go_at_call 121;(with_reducible refine cx hM (Yp Y0 ce ny _ _ HK.out.cy HK.out.ce HK.out.ny) ?_);clear hM;rintro⟨i,f,k⟩ W1 ⟨hsp,-⟩ hM;dsimp only at hsp;try dsimp only));refine rK hK' hM ?_;clear hK' K';refine dP 13 hM ?_ (hv:=by(intro W0;go_simp;rw[fN];rfl));refine qj ?_;refine dC 26 (fun K' hK'=> ?_);go_wp2_with(first|(go_at_call 121;(with_reducible refine cx hM (Yp Y0 ce ny _ _ HK.out.cy HK.out.ce HK.out.ny) ?_);clear hM;rintro⟨i,f,k⟩ W1 ⟨hsp,-⟩ hM;dsimp only at hsp;try dsimp only));refine rK hK' hM ?_;clear hK' K';refine dP 27 hM ?_ (hv:=by(intro W0;go_simp;rw[fN];rfl));refine qj ?_;refine rD 28 ?_;refine rD 32 ?_;refine rD 33 ?_;refine rD 34 ?_;refine qp qM ?_;go_wp2_with fail
   all_goals
    go_meet;exact⟨_,_,rfl,rfl,⟨qg,qg⟩,wJ qg,hM⟩
 case rest=>
 clear hM;obtain⟨p7,q7,rfl,rfl,hp7,hq7,hM⟩:=hcut;go_upto_region 8 with(first|(refine qe ?_;clear hM;intro g W hM));refine qj ?_;go_cut [16,17] (fun s1 s2 wx=>∃p q:Int,s1=Iv p∧s2=Iv q∧(0≤p∧p<an)∧q<an∧qF w wx [(gi,[Iv 0,Iv 0],72),(gr,[Iv 0,Iv 0,Iv 0,Iv 0],217),(gw,[Iv lo,Iv hi],55),(gb,[Iv bx,Iv b_y],26),(ga,[Iv ax,Iv ay],26),(gp,[Iv X0,Iv Y0,Iv ce,Iv nx,Iv ny,.slice SA an aq,.slice SW wn wq,.slice SD dn dq,Iv er],38)])
 case first=>
  as_aux_lemma=>
   refine qA [(gw,[Iv lo,Iv hi],55),(gb,[Iv bx,Iv b_y],26),(ga,[Iv ax,Iv ay],26),(gp,[Iv X0,Iv Y0,Iv ce,Iv nx,Iv ny,.slice SA an aq,.slice SW wn wq,.slice SD dn dq,Iv er],38)] hM qM ?_;(clear hM;intro W hM);refine rD 0 ?_;refine rD 1 ?_;refine rD 2 ?_;refine rD 3 ?_;refine rD 6 ?_;refine rD 7 ?_;refine rD 8 ?_;refine rD 9 ?_;refine rD 13 ?_;refine rD 14 ?_;refine rD 15 ?_;refine rD 16 ?_;refine dC 4 (fun K' hK'=> ?_);go_wp2_with(first|(go_at_call 122;(with_reducible refine cx hM (UV _ _ _ fa _ _ HK.out.al (hide (zW hM FA.out))) ?_);clear hM;rintro⟨i,f,k⟩ W1 ⟨hsp,-⟩ hM;dsimp only at hsp;try dsimp only));refine rK hK' hM ?_;clear hK' K';refine dP 5 hM ?_ (hv:=by(intro W0;go_simp;rw[fN];rfl));refine qj ?_;refine dC 10 (fun K' hK'=> ?_);go_wp2_with(first|(go_at_call 122;(with_reducible refine cx hM (UV _ _ _ fa _ _ HK.out.al (hide (zW hM FA.out))) ?_);clear hM;rintro⟨i,f,k⟩ W1 ⟨hsp,-⟩ hM;dsimp only at hsp;try dsimp only));refine rK hK' hM ?_;clear hK' K';refine dP 11 hM ?_ (hv:=by(intro W0;go_simp;rw[fN];rfl));refine qj ?_;refine rD 12 ?_;refine rD 17 ?_;refine rD 18 ?_;refine rD 19 ?_;refine qp qM ?_;go_wp2_with fail
   all_goals
    go_meet;exact⟨_,_,rfl,rfl,⟨qg,qg⟩,wJ qg,hM⟩
 case rest=>
 clear hM;obtain⟨p8,q8,rfl,rfl,hp8,hq8,hM⟩:=hcut;go_upto_region 10 with(first|(refine qe ?_;clear hM;intro g W hM)|(go_at_call 128;(with_reducible refine cx hM (Vc ⟨X0,Y0,ce,nx,ny,⟨SA,an,aq⟩,⟨SW,wn,wq⟩,⟨SD,dn,dq⟩,er⟩ _ _ _ _ HK hp6 hp7 hp8) ?_);clear hM;rintro k W1 ⟨hk1,hk2⟩ hM;dsimp only at hk1 hk2));obtain⟨bo,ow,rfl,hw0,iw0,iw1⟩:=FW.out k hk1;obtain⟨bd,od,rfl,hd0,id0⟩:=FD.out k hk2;have HW0:=hide (hw0 0 _ rfl);have HW1:=hide (hw0 1 _ rfl);have HD0:=hide hd0;rw[Nat.add_zero]at HW0;clear hw0 hd0;refine qj ?_;refine qA [(gp,[Iv X0,Iv Y0,Iv ce,Iv nx,Iv ny,.slice SA an aq,.slice (some ⟨bo,ow,none⟩) wn wq,.slice (some ⟨bd,od,none⟩) dn dq,Iv er],38)] hM qM ?_;(clear hM;intro W hM);refine rD 0 ?_;refine rD 1 ?_;refine rD 2 ?_;refine dP 3 (v:= .pointer (some ⟨bo,ow+k*2,none⟩)) hM ?_ (hv:=by(intro W0;go_simp;first|done|omega|(intro h;exact absurd h qg)));refine qj ?_;refine rD 4 ?_;refine jk 5 hM (HW0.out) ?_;refine qj ?_;refine rD 6 ?_;refine rD 7 ?_;refine rD 8 ?_;refine dP 9 (v:= .pointer (some ⟨bo,ow+k*2,none⟩)) hM ?_ (hv:=by(intro W0;go_simp;first|done|omega|(intro h;exact absurd h qg)));refine qj ?_;refine rD 10 ?_;refine jk 11 hM (HW0.out) ?_;refine qj ?_;refine rD 12 ?_;refine rD 13 ?_;refine rD 14 ?_;refine rD 15 ?_;refine dP 16 (v:= .pointer (some ⟨bo,ow+k*2,none⟩)) hM ?_ (hv:=by(intro W0;go_simp;first|done|omega|(intro h;exact absurd h qg)));refine qj ?_;refine rD 17 ?_;refine jk 18 hM (HW1.out) ?_;refine qj ?_;refine rD 19 ?_;refine rD 20 ?_;refine rD 21 ?_;refine dP 22 (v:= .pointer (some ⟨bo,ow+k*2,none⟩)) hM ?_ (hv:=by(intro W0;go_simp;first|done|omega|(intro h;exact absurd h qg)));refine qj ?_;refine rD 23 ?_;refine jk 24 hM (HW1.out) ?_;refine qj ?_;refine rD 25 ?_;refine rD 26 ?_;refine dC 27 (fun K' hK'=> ?_);refine oN hM ?_;clear hM;intro g19 W hM;refine rK hK' hM ?_;clear hK' K';refine dC 28 (fun K' hK'=> ?_);refine oS hM ?_;clear hM;intro W hM;refine rK hK' hM ?_;clear hK' K';refine qp qM ?_;go_upto_region 11 with fail;refine qj ?_;refine qA [(gp,[Iv X0,Iv Y0,Iv ce,Iv nx,Iv ny,.slice SA an aq,.slice (some ⟨bo,ow,none⟩) wn wq,.slice (some ⟨bd,od,none⟩) dn dq,Iv er],38)] hM qM ?_;(clear hM;intro W hM);refine rD 0 ?_;refine rD 1 ?_;refine rD 2 ?_;refine dP 3 (v:= .pointer (some ⟨bd,od+k,none⟩)) hM ?_ (hv:=by(intro W0;go_simp;first|done|omega|(intro h;exact absurd h qg)));refine qj ?_;refine jk 4 hM (HD0.out) ?_;refine qj ?_;refine rD 5 ?_;refine rD 6 ?_;refine rD 7 ?_;refine dP 8 (v:= .pointer (some ⟨bd,od+k,none⟩)) hM ?_ (hv:=by(intro W0;go_simp;first|done|omega|(intro h;exact absurd h qg)));refine qj ?_;refine jk 9 hM (HD0.out) ?_;refine qj ?_;refine rD 10 ?_;refine dC 11 (fun K' hK'=> ?_);refine oN hM ?_;clear hM;intro g20 W hM;refine rK hK' hM ?_;clear hK' K';refine dC 12 (fun K' hK'=> ?_);refine oS hM ?_;clear hM;intro W hM;refine rK hK' hM ?_;clear hK' K';refine qp qM ?_;clear HW0 HW1 HD0;have ja:=iw0;have jb:=iw0;have jc:=iw1;have jd:=iw1;have ju:=id0;have jv:=id0;clear iw0 iw1 id0 hk1 hk2
 as_aux_lemma=>
  go_upto_region 13 with(first|(refine qe ?_;clear hM;intro g W hM));go_loopw [21] (fun s wx=>∃z a b c d u v:Int,0≤z∧s=Iv z∧(qz a∧qz b∧qz c∧qz d∧qz u∧qz v)∧qF w wx [(g20,[Iv u,Iv v],72),(g19,[Iv a,Iv b,Iv c,Iv d],217),(gi,[Iv 0,Iv 0],72),(gr,[Iv 0,Iv 0,Iv 0,Iv 0],217),(gw,[Iv lo,Iv hi],55),(gb,[Iv bx,Iv b_y],26),(ga,[Iv ax,Iv ay],26),(gp,[Iv X0,Iv Y0,Iv ce,Iv nx,Iv ny,.slice SA an aq,.slice (some ⟨bo,ow,none⟩) wn wq,.slice (some ⟨bd,od,none⟩) dn dq,Iv er],38)]) (fun s _=>(q8+1-intOf s).toNat)
  case atStart=>exact⟨p8,_,_,_,_,_,_,hp8.1,rfl,⟨ja,jb,jc,jd,ju,jv⟩,hM⟩
  case round=>
   clear hM ja jb jc jd ju jv;obtain⟨z,a,b,c,d,u,v,hz0,rfl,⟨ja,jb,jc,jd,ju,jv⟩,hM⟩:=hrel;by_cases hzq:z≤q8
   ·have wz1:=IntWalk.i64_in (z+1) qg
    as_aux_lemma=>
     go_upto_region 16 with(first|(refine qe ?_;clear hM;intro g W hM));go_loopw [22] (fun s wx=>∃y a b c d u v:Int,0≤y∧s=Iv y∧(qz a∧qz b∧qz c∧qz d∧qz u∧qz v)∧qF w wx [(g20,[Iv u,Iv v],72),(g19,[Iv a,Iv b,Iv c,Iv d],217),(gi,[Iv 0,Iv 0],72),(gr,[Iv 0,Iv 0,Iv 0,Iv 0],217),(gw,[Iv lo,Iv hi],55),(gb,[Iv bx,Iv b_y],26),(ga,[Iv ax,Iv ay],26),(gp,[Iv X0,Iv Y0,Iv ce,Iv nx,Iv ny,.slice SA an aq,.slice (some ⟨bo,ow,none⟩) wn wq,.slice (some ⟨bd,od,none⟩) dn dq,Iv er],38)]) (fun s _=>(q7+1-intOf s).toNat)
     case atStart=>exact⟨p7,_,_,_,_,_,_,hp7.1,rfl,⟨ja,jb,jc,jd,ju,jv⟩,hM⟩
     case round=>
      clear hM ja jb jc jd ju jv;obtain⟨y,a,b,c,d,u,v,hy0,rfl,⟨ja,jb,jc,jd,ju,jv⟩,hM⟩:=hrel;by_cases hyq:y≤q7
      ·have wy1:=IntWalk.i64_in (y+1) qg
       as_aux_lemma=>
        go_upto_region 19 with(first|(refine qe ?_;clear hM;intro g W hM));go_loopw [23] (fun s wx=>∃x a b c d u v:Int,0≤x∧s=Iv x∧(qz a∧qz b∧qz c∧qz d∧qz u∧qz v)∧qF w wx [(g20,[Iv u,Iv v],72),(g19,[Iv a,Iv b,Iv c,Iv d],217),(gi,[Iv 0,Iv 0],72),(gr,[Iv 0,Iv 0,Iv 0,Iv 0],217),(gw,[Iv lo,Iv hi],55),(gb,[Iv bx,Iv b_y],26),(ga,[Iv ax,Iv ay],26),(gp,[Iv X0,Iv Y0,Iv ce,Iv nx,Iv ny,.slice SA an aq,.slice (some ⟨bo,ow,none⟩) wn wq,.slice (some ⟨bd,od,none⟩) dn dq,Iv er],38)]) (fun s _=>(q6+1-intOf s).toNat)
        case atStart=>exact⟨p6,_,_,_,_,_,_,hp6.1,rfl,⟨ja,jb,jc,jd,ju,jv⟩,hM⟩
        case round=>
         clear hM ja jb jc jd ju jv;obtain⟨x,a,b,c,d,u,v,hx0,rfl,⟨ja,jb,jc,jd,ju,jv⟩,hM⟩:=hrel;by_cases hxq:x≤q6
         ·have wx1:=IntWalk.i64_in (x+1) qg
          as_aux_lemma=>
           have HX6:0≤x∧x<nx:=⟨hx0,qg⟩;have HX7:0≤y∧y<ny:=⟨hy0,qg⟩;have HX8:0≤z∧z<(an:Int):=⟨hz0,qg⟩;go_upto_region 22 with(first|(refine qe ?_;clear hM;intro g W hM)|(go_at_call 128;(with_reducible refine cx hM (Vc ⟨X0,Y0,ce,nx,ny,⟨SA,an,aq⟩,⟨some ⟨bo,ow,none⟩,wn,wq⟩,⟨some ⟨bd,od,none⟩,dn,dq⟩,er⟩ _ _ _ _ HK HX6 HX7 HX8) ?_);clear hM;rintro k W1 ⟨hk1,hk2⟩ hM;dsimp only at hk1 hk2));have hw:=(ve FW.out hk1);have HV0:=hide (hw.1 0 _ rfl);have HV1:=hide (hw.1 1 _ rfl);have hd:=(zE FD.out hk2);have HE0:=hide hd.1;have ie:=hw.2.1;have jn:=hw.2.2;have je:=hd.2;rw[Nat.add_zero]at HV0;clear hw hd;go_upto_region 23 with(first|(go_at_call 215;(with_reducible refine Al hM (fun R' hM'=>Am _ _ _ _ _ hM' ja jb ie) ?_);clear hM;rintro⟨y1,y2⟩ W1 ⟨i1,i2⟩ hM;dsimp only at i1 i2;simp only[List.cons_append,List.nil_append]at hM)|((with_reducible refine lX ?_);refine zD hM rfl (by first|exact rfl|(go_simp;done)) rfl (ur rfl) (HV0.out) ?_)|(refine qe ?_;clear hM;intro g W hM));replace ja:=i1;replace jb:=i2;clear i1 i2;go_upto_region 24 with(first|(go_at_call 215;(with_reducible refine Al hM (fun R' hM'=>Ao _ _ _ _ _ hM' jc jd jn) ?_);clear hM;rintro⟨y1,y2⟩ W1 ⟨i1,i2⟩ hM;dsimp only at i1 i2;simp only[List.cons_append,List.nil_append]at hM)|((with_reducible refine lX ?_);refine zD hM rfl (by first|exact rfl|(go_simp;done)) rfl (ur rfl) (HV1.out) ?_)|(refine qe ?_;clear hM;intro g W hM));replace jc:=i1;replace jd:=i2;clear i1 i2;go_upto_region 20 with(first|(go_at_call 215;(with_reducible refine Al hM (fun R' hM'=>Ap _ _ _ hM' ju jv je) ?_);clear hM;rintro⟨y1,y2⟩ W1 ⟨i1,i2⟩ hM;dsimp only at i1 i2;simp only[List.cons_append,List.nil_append]at hM)|((with_reducible refine lX ?_);refine zD hM rfl (by first|exact rfl|(go_simp;done)) rfl (ur rfl) (HE0.out) ?_)|(refine qe ?_;clear hM;intro g W hM));replace ju:=i1;replace jv:=i2;clear i1 i2 HV0 HV1 HE0 ie jn je HX6 HX7 HX8;go_wp2_with fail
           (go_roundw
            case rel=>exact⟨x+1,_,_,_,_,_,_,by omega,by first|rfl|go_num|rw[wx1],⟨ja,jb,jc,jd,ju,jv⟩,hM⟩
            case measure=>simp[intOf];omega)
         ·as_aux_lemma=>
           go_wp2_with fail
           (go_roundw
            case rel=>exact⟨y+1,_,_,_,_,_,_,by omega,by first|rfl|go_num|rw[wy1],⟨ja,jb,jc,jd,ju,jv⟩,hM⟩
            case measure=>simp[intOf];omega)
      ·as_aux_lemma=>
        go_wp2_with fail
        (go_roundw
         case rel=>exact⟨z+1,_,_,_,_,_,_,by omega,by first|rfl|go_num|rw[wz1],⟨ja,jb,jc,jd,ju,jv⟩,hM⟩
         case measure=>simp[intOf];omega)
   ·as_aux_lemma=>
     have I0:=Ld g19;have I1:=Le g19;go_upto_region 26 with(first|(refine qe ?_;clear hM;intro g W hM));go_loopw [236] (fun s wx=>∃i a b c d u v:Int,(i=0∨i=1∨i=2)∧s=Iv i∧(qz a∧qz b∧qz c∧qz d∧qz u∧qz v)∧qF w wx [(g20,[Iv u,Iv v],72),(g19,[Iv a,Iv b,Iv c,Iv d],217),(gi,[Iv 0,Iv 0],72),(gr,[Iv 0,Iv 0,Iv 0,Iv 0],217),(gw,[Iv lo,Iv hi],55),(gb,[Iv bx,Iv b_y],26),(ga,[Iv ax,Iv ay],26),(gp,[Iv X0,Iv Y0,Iv ce,Iv nx,Iv ny,.slice SA an aq,.slice (some ⟨bo,ow,none⟩) wn wq,.slice (some ⟨bd,od,none⟩) dn dq,Iv er],38)]) (fun s _=>(2-intOf s).toNat)
     case atStart=>exact⟨0,_,_,_,_,_,_,.inl rfl,rfl,⟨ja,jb,jc,jd,ju,jv⟩,hM⟩
     case round=>
      clear hM ja jb jc jd ju jv;obtain⟨i,a,b,c,d,u,v,hi,rfl,⟨ja,jb,jc,jd,ju,jv⟩,hM⟩:=hrel;rcases hi with rfl|rfl|rfl
      ·as_aux_lemma=>
        go_upto_region 28 with(first|(refine qe ?_;clear hM;intro g W hM));refine qj ?_;refine qA [(gp,[Iv X0,Iv Y0,Iv ce,Iv nx,Iv ny,.slice SA an aq,.slice (some ⟨bo,ow,none⟩) wn wq,.slice (some ⟨bd,od,none⟩) dn dq,Iv er],38)] hM qM ?_;(clear hM;intro W hM);refine rD 0 ?_;refine rD 1 ?_;refine rD 2 ?_;refine rD 4 ?_;refine rD 5 ?_;refine dC 3 (fun K' hK'=> ?_)
        first|refine oL hM ?_|refine oM hM ?_
        refine rK hK' hM ?_;clear hK' K';refine rD 6 ?_;refine rD 7 ?_;refine rD 8 ?_;refine dC 9 (fun K' hK'=> ?_);refine oS hM ?_;clear hM;intro W hM;refine rK hK' hM ?_;clear hK' K';refine qp qM ?_;go_upto_region 29 with fail;refine qj ?_;refine qA [(gp,[Iv X0,Iv Y0,Iv ce,Iv nx,Iv ny,.slice SA an aq,.slice (some ⟨bo,ow,none⟩) wn wq,.slice (some ⟨bd,od,none⟩) dn dq,Iv er],38)] hM qM ?_;(clear hM;intro W hM);refine rD 0 ?_;refine rD 1 ?_;refine rD 2 ?_;refine rD 4 ?_;refine rD 5 ?_;refine dC 3 (fun K' hK'=> ?_)
        first|refine oL hM ?_|refine oM hM ?_
        refine rK hK' hM ?_;clear hK' K';refine rD 6 ?_;refine rD 7 ?_;refine rD 8 ?_;refine dC 9 (fun K' hK'=> ?_);refine oS hM ?_;clear hM;intro W hM;refine rK hK' hM ?_;clear hK' K';refine qp qM ?_;go_wp2_with fail
        (go_roundw
         case rel=>exact⟨1,_,_,c,d,u,v,.inr (.inl rfl),rfl,⟨ze _,ze _,jc,jd,ju,jv⟩,hM⟩
         case measure=>simp[intOf]<;>omega)
      ·as_aux_lemma=>
        go_upto_region 28 with(first|(refine qe ?_;clear hM;intro g W hM));refine qj ?_;refine qA [(gp,[Iv X0,Iv Y0,Iv ce,Iv nx,Iv ny,.slice SA an aq,.slice (some ⟨bo,ow,none⟩) wn wq,.slice (some ⟨bd,od,none⟩) dn dq,Iv er],38)] hM qM ?_;(clear hM;intro W hM);refine rD 0 ?_;refine rD 1 ?_;refine rD 2 ?_;refine rD 4 ?_;refine rD 5 ?_;refine dC 3 (fun K' hK'=> ?_)
        first|refine oL hM ?_|refine oM hM ?_
        refine rK hK' hM ?_;clear hK' K';refine rD 6 ?_;refine rD 7 ?_;refine rD 8 ?_;refine dC 9 (fun K' hK'=> ?_);refine oS hM ?_;clear hM;intro W hM;refine rK hK' hM ?_;clear hK' K';refine qp qM ?_;go_upto_region 29 with fail;refine qj ?_;refine qA [(gp,[Iv X0,Iv Y0,Iv ce,Iv nx,Iv ny,.slice SA an aq,.slice (some ⟨bo,ow,none⟩) wn wq,.slice (some ⟨bd,od,none⟩) dn dq,Iv er],38)] hM qM ?_;(clear hM;intro W hM);refine rD 0 ?_;refine rD 1 ?_;refine rD 2 ?_;refine rD 4 ?_;refine rD 5 ?_;refine dC 3 (fun K' hK'=> ?_)
        first|refine oL hM ?_|refine oM hM ?_
        refine rK hK' hM ?_;clear hK' K';refine rD 6 ?_;refine rD 7 ?_;refine rD 8 ?_;refine dC 9 (fun K' hK'=> ?_);refine oS hM ?_;clear hM;intro W hM;refine rK hK' hM ?_;clear hK' K';refine qp qM ?_;go_wp2_with fail
        (go_roundw
         case rel=>exact⟨2,a,b,_,_,u,v,.inr (.inr rfl),rfl,⟨ja,jb,ze _,ze _,ju,jv⟩,hM⟩
         case measure=>simp[intOf]<;>omega)
      ·as_aux_lemma=>
        go_upto_region 31 with(first|(refine qe ?_;clear hM;intro g W hM));refine qj ?_;refine qA [(g20,[Iv u,Iv v],72),(g19,[Iv a,Iv b,Iv c,Iv d],217)] hM qM ?_;(clear hM;intro W hM);refine rD 0 ?_;refine rD 1 ?_;refine dC 2 (fun K' hK'=> ?_);refine oS hM ?_;clear hM;intro W hM;refine rK hK' hM ?_;clear hK' K';refine dC 3 (fun K' hK'=> ?_);refine oS hM ?_;clear hM;intro W hM;refine rK hK' hM ?_;clear hK' K';refine rD 4 ?_;refine qp qM ?_;go_wp2_with fail
        all_goals(refine Bb (tg:=217) (th:=72) hM rfl rfl rfl rfl Tryz.isAgg217 Tryz.sizeOf217 Tryz.isAgg72 Tryz.sizeOf72 rfl (by((repeat constructor)<;>fail)) (by((repeat constructor)<;>fail)) rfl rfl ?_;exact⟨(_,_,_,_,_,_,_),rfl,⟨by first|exact zg|assumption|exact zi _|exact ze _|exact⟨qG,qG⟩,by first|exact zg|assumption|exact zi _|exact ze _|exact⟨qG,qG⟩,by first|exact zg|assumption|exact zi _|exact ze _|exact⟨qG,qG⟩,by first|exact zg|assumption|exact zi _|exact ze _|exact⟨qG,qG⟩,by first|exact zg|assumption|exact zi _|exact ze _|exact⟨qG,qG⟩,by first|exact zg|assumption|exact zi _|exact ze _|exact⟨qG,qG⟩,by first|exact zg|assumption|exact zi _|exact ze _|exact⟨qG,qG⟩⟩,hM.below⟩)
theorem VH(gd:Gd)(ax ay bx b_y lo hi:Int)(w:World)(HG:Hid (Zz w gd)):Calls Tryz.prog 191 #[.agg gd.cells.toArray,.agg #[Iv ax,Iv ay],.agg #[Iv bx,Iv b_y],.agg #[Iv lo,Iv hi]] w (bR (fun r:Int×Int×Int×Int×Int×Int×Int=> .tuple #[.agg #[Iv r.1,Iv r.2.1,Iv r.2.2.1,Iv r.2.2.2.1],.agg #[Iv r.2.2.2.2.1,Iv r.2.2.2.2.2.1],Iv r.2.2.2.2.2.2]) (fun r=>qz r.1∧qz r.2.1∧qz r.2.2.1∧qz r.2.2.2.1∧qz r.2.2.2.2.1∧qz r.2.2.2.2.2.1∧qz r.2.2.2.2.2.2) w):=by
 obtain⟨X0,Y0,ce,nx,ny,⟨SA,an,aq⟩,⟨SW,wn,wq⟩,⟨SD,dn,dq⟩,er⟩:=gd;exact Fy X0 Y0 ce nx ny er SA SW SD an aq wn wq dn dq ax ay bx b_y lo hi w HG
end Go.Proofs.YtiegohjobhehcaaGreatDoor
