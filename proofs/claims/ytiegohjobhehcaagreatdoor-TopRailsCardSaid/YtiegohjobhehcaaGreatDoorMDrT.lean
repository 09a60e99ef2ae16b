/-
  Holding patterns and procedure turns drawn, by boxes.
-/
import Derived.Test.YtiegohjobhehcaaGreatDoorMHoldC
import Derived.Test.YtiegohjobhehcaaGreatDoorMDrF
namespace Go.Proofs.YtiegohjobhehcaaGreatDoor
open Go.RowKit
set_option linter.unusedVariables false
set_option linter.unusedSimpArgs false
theorem KU(n:Int):∀(l:List El) (d:Dw) (x:El),bT n d (l++[x])=if 1≤x.L then ZO (bT n d l) {x with n:=n}else bT n d l
 | [],d,x=>by unfold bT;rfl
 |y::l,d,x=>by
  rw[List.cons_append];unfold bT;exact KU n l _ x
theorem wD{l:List El}{k:Nat}{x:El}(h:l[k]? =some x):l.take (k+1)=l.take k++[x]:=by
 rw[List.take_add_one,h];rfl
theorem uy{w W0 W':World}{L Br:List qZ}(h:qF w W0 L)(k:qF W0 W' Br):qF w W' (Br++L):=by
 have h2:=qD h k.below;refine⟨h2.below,fun g cs t hm=> ?_,?_⟩
 ·rcases List.mem_append.1 hm with hm|hm
  ·exact⟨Nat.le_trans h.below.size (k.rows g cs t hm).1,(k.rows g cs t hm).2⟩
  ·exact h2.rows g cs t hm
 ·rw[List.map_append,List.nodup_append];refine⟨k.nodup,h.nodup,fun b hb a ha he=> ?_⟩;obtain⟨⟨a1,a2,a3⟩,hx,e1⟩:=List.mem_map.1 ha;obtain⟨⟨b1,b2,b3⟩,hy,e2⟩:=List.mem_map.1 hb;have:=h.lt hx;have:=(k.rows b1 b2 b3 hy).1;simp only at e1 e2;omega
theorem Ga{w W:World}{Br L:List qZ}(h:qF w W (Br++L)):qF w W L:=
 ⟨h.below,fun g cs t hm=>h.rows g cs t (List.mem_append_right _ hm),by
  have:=h.nodup;rw[List.map_append,List.nodup_append]at this
  exact this.2.1⟩
theorem fF{fx fy crs tn dst rad:Int}(h:(uU fx fy crs tn dst rad).1≠0):(uU fx fy crs tn dst rad).2=[]:=by
 unfold uU at h⊢;split
 ·rfl
 ·rename_i h1;rw[if_neg h1]at h;split
  ·rfl
  ·rename_i h2;rw[if_neg h2]at h;dsimp only at h⊢;split
   ·rename_i h3;rw[if_pos h3]at h;exact absurd rfl h
   ·rfl
theorem fG{fx fy crs tn dst rad:Int}(h:(uU fx fy crs tn dst rad).1=0):(uU fx fy crs tn dst rad).2.length=5:=by
 unfold uU at h⊢;split
 ·rename_i h1;rw[if_pos h1]at h;cases h
 ·rename_i h1;rw[if_neg h1]at h;split
  ·rename_i h2;rw[if_pos h2]at h;cases h
  ·rename_i h2;rw[if_neg h2]at h;dsimp only at h⊢;split
   ·rfl
   ·rename_i h3;rw[if_neg h3]at h;cases h
theorem Jr{V:Value}{l:List El}{B:List qZ}{m:Nat}(h:tO V l B m)(h0:0<l.length):∃g cap cur,V= .slice (some ⟨g,0,none⟩) l.length cap∧B=[(g,cur,53)]∧cur.take (l.length*13)=l.flatMap El.cells:=by
 obtain⟨h1,_⟩:=h;generalize hn:l.length=n at*;generalize l.flatMap El.cells=xs at*
 cases h1 with
 |nil=>omega
 |row a b c e g=>exact⟨_,_,_,rfl,rfl,e⟩
set_option maxRecDepth 100000 in
set_option maxHeartbeats 8000000 in
theorem KV{w0 w:World}{gd:Nat}{rad:Int}{V:Value}{d:Dw}{B R:List qZ}{m:Nat}(lx:En)(x:Tk)(hr:1≤rad)(hr8:rad≤8000000)(htn:lx.tn=1∨lx.tn=2)(hci:qz x.ci)(hcr:qz lx.crs)(hM:qF w0 w ((gd,bq V d rad,88)::(B++R)))(hO:Hid (tO V d.els B m))(hm:m≤80000:=by omega):
 Calls Tryz.prog 15 #[.pointer (some ⟨gd,0,none⟩),.agg #[.int .u8 lx.ty,.string lx.fx,.string lx.ct,.int .u8 lx.tn,.bool lx.ov,Iv lx.crs,Iv lx.dst,Iv lx.rad,Iv lx.tht,Iv lx.lo,Iv lx.hi,Iv lx.spd,Iv lx.rnp],.agg x.cX.toArray] w fun e w'=>e= .returned (Iv (QA rad d lx x).1)∧∃V' B',tO V' (QA rad d lx x).2.els B' (m+7)∧qF w0 w' ((gd,bq V' (QA rad d lx x).2 rad,88)::(B'++R)):=by
 go_enter Tryz.func15,Tryz.ntmps15;go_upto_region 0 with fail;refine qj ?_;go_cut [5,4] (fun s5 s4 wx=>∃gx gl:Nat,s5= .pointer (some ⟨gx,0,none⟩)∧s4= .pointer (some ⟨gl,0,none⟩)∧qF w0 wx ((gx,x.cX,91)::(gl,[.int .u8 lx.ty,.string lx.fx,.string lx.ct,.int .u8 lx.tn,.bool lx.ov,Iv lx.crs,Iv lx.dst,Iv lx.rad,Iv lx.tht,Iv lx.lo,Iv lx.hi,Iv lx.spd,Iv lx.rnp],60)::((gd,bq V d rad,88)::(B++R))))
 case first=>
  go_wp2_with(first|(refine qe ?_;clear hM;intro g W hM))
  all_goals
   go_meet;exact⟨_,_,rfl,rfl,hM⟩
 case rest=>
 clear hM;obtain⟨gx,gl,rfl,rfl,hM⟩:=hcut;go_upto_if 17 with(first|(refine qe ?_;clear hM;intro g W hM));refine qj ?_;go_cut [7] (fun s7 wx=>∃ga cap cur es,s7= .slice (some ⟨ga,0,none⟩) es.length cap∧Hid (cur.take (es.length*13)=es.flatMap El.cells)∧es.length≤7∧Hid (QA rad d lx x=(0,bT x.n d es))∧qF w0 wx ((ga,cur,53)::((gx,x.cX,91)::(gl,[.int .u8 lx.ty,.string lx.fx,.string lx.ct,.int .u8 lx.tn,.bool lx.ov,Iv lx.crs,Iv lx.dst,Iv lx.rad,Iv lx.tht,Iv lx.lo,Iv lx.hi,Iv lx.spd,Iv lx.rnp],60)::((gd,bq V d rad,88)::(B++R)))))
 case first=>
  by_cases h17:lx.ty=17
  ·have k17:(lx.ty==17)=true:=by simpa using h17
   have HP0:=hide (show QA rad d lx x=((uU x.ax x.ay lx.crs lx.tn lx.dst rad).1,bT x.n d (uU x.ax x.ay lx.crs lx.tn lx.dst rad).2) by unfold QA;rw[if_pos h17]);clear h17;go_upto_region 3 with(first|(refine qe ?_;clear hM;intro g W hM));refine qj ?_;refine qA [(gx,x.cX,91),(gl,[.int .u8 lx.ty,.string lx.fx,.string lx.ct,.int .u8 lx.tn,.bool lx.ov,Iv lx.crs,Iv lx.dst,Iv lx.rad,Iv lx.tht,Iv lx.lo,Iv lx.hi,Iv lx.spd,Iv lx.rnp],60)] hM qM ?_;(clear hM;intro W hM);refine rD 0 ?_;refine rD 1 ?_;refine rD 2 ?_;refine rD 3 ?_;refine rD 4 ?_;refine rD 5 ?_;refine rD 6 ?_;refine rD 7 ?_;refine rD 8 ?_;refine rD 9 ?_;refine rD 10 ?_;refine dC 11 (fun K' hK'=> ?_)
   first|refine oL hM ?_|refine oM hM ?_
   refine rK hK' hM ?_;clear hK' K';refine dC 12 (fun K' hK'=> ?_);go_wp2_with(first|(go_at_call 42;refine(Aq x.ax x.ay lx.crs lx.tn lx.dst rad _).mono ?_;rintro e0 W1 ⟨Vr,Br,rfl,hOr,hMr⟩;replace hM:=uy hM hMr;clear hMr));refine rK hK' hM ?_;clear hK' K';refine rD 13 ?_;refine rD 14 ?_;refine rD 15 ?_;refine rD 16 ?_;refine rD 17 ?_;refine qp qM ?_;obtain⟨E0,hE0⟩:∃E0,(uU x.ax x.ay lx.crs lx.tn lx.dst rad).1=E0:=⟨_,rfl⟩;rw[hE0];by_cases h0:E0=0;rotate_left 1
   ·have HP:=hide (show QA rad d lx x=(E0,d) by rw[HP0.out,fF (by rw[hE0];exact h0),hE0];rfl);have h1:(E0 !=0)=true:=by simpa using h0
    clear h0 hE0 HP0;go_wp2_with(first|(refine qe ?_;clear hM;intro g W hM))
    all_goals
     (go_ret;exact⟨by rw[HP.out];rfl,V,B,by rw[HP.out];exact⟨hO.out.1,Nat.le_trans hO.out.2 qg⟩,by rw[HP.out];exact qC (qC (Ga hM))⟩)
   subst h0;have h5:=fG hE0;obtain⟨ga,cap,cur,rfl,rfl,hcur⟩:=Jr hOr (by rw[h5];decide);have HP:=hide (show QA rad d lx x=(0,bT x.n d (uU x.ax x.ay lx.crs lx.tn lx.dst rad).2) by rw[HP0.out,hE0]);have hcur:=hide hcur;clear hOr HP0 hE0;generalize(uU x.ax x.ay lx.crs lx.tn lx.dst rad).2=es at*;simp only[List.cons_append,List.nil_append]at hM;go_wp2_with(first|(refine qe ?_;clear hM;intro g W hM))
   all_goals
    go_meet;exact⟨ga,cap,cur,es,rfl,hcur,by omega,HP,hM⟩
  ·have k17:(lx.ty==17)=false:=by simpa using h17
   have EN:=fun W=>NP x.ci lx.crs lx.tn htn hci hcr W
   by_cases hE:bS x.ax x.ay lx.crs lx.tn lx.dst rad=0;rotate_left 1
   ·have HP:=hide (show QA rad d lx x=(bS x.ax x.ay lx.crs lx.tn lx.dst rad,d) by unfold QA;rw[if_neg h17,if_pos hE]);obtain⟨E0,hE0⟩:∃E0,bS x.ax x.ay lx.crs lx.tn lx.dst rad=E0:=⟨_,rfl⟩;rw[hE0]at hE HP;have EB:=fun W=>fM (Jt (Jj x.ci lx.crs lx.tn)) x.ax x.ay lx.crs lx.tn lx.dst rad E0 hE0 hE W
    have h1:(E0 !=0)=true:=by simpa using hE
    clear h17 hE hE0;go_upto_region 7 with(first|(refine qe ?_;clear hM;intro g W hM));refine qj ?_;refine qA [(gx,x.cX,91),(gl,[.int .u8 lx.ty,.string lx.fx,.string lx.ct,.int .u8 lx.tn,.bool lx.ov,Iv lx.crs,Iv lx.dst,Iv lx.rad,Iv lx.tht,Iv lx.lo,Iv lx.hi,Iv lx.spd,Iv lx.rnp],60)] hM qM ?_;(clear hM;intro W hM);refine rD 0 ?_;refine rD 1 ?_;refine rD 2 ?_;refine rD 3 ?_;refine rD 4 ?_;refine rD 5 ?_;refine rD 7 ?_;refine rD 8 ?_;refine rD 9 ?_;refine rD 10 ?_;refine rD 11 ?_;refine rD 12 ?_;refine rD 13 ?_;refine rD 14 ?_;refine rD 15 ?_;refine rD 16 ?_;refine rD 17 ?_;refine dT 6 18 (fun K' hK'=> ?_) (fun K' hK'=> ?_)
    ·
     go_wp2_with(first|refine qN (EN _) ?_|(refine qt (EB _) ?_;clear hM;intro W1 hM));refine rK hK' hM ?_;clear hK' K';refine dC 18 (fun K' hK'=> ?_)
     first|refine oL hM ?_|refine oM hM ?_
     refine rK hK' hM ?_;clear hK' K';refine dC 19 (fun K' hK'=> ?_);go_wp2_with(first|refine qN (EN _) ?_|(refine qt (EB _) ?_;clear hM;intro W1 hM));refine rK hK' hM ?_;clear hK' K';refine rD 20 ?_;refine rD 21 ?_;refine rD 22 ?_;refine rD 23 ?_;refine rD 24 ?_;refine qp qM ?_;go_wp2_with(first|(refine qe ?_;clear hM;intro g W hM))
     all_goals
      (go_ret;exact⟨by rw[HP.out];rfl,V,B,by rw[HP.out];exact⟨hO.out.1,Nat.le_trans hO.out.2 qg⟩,by rw[HP.out];exact qC (qC hM)⟩)
    ·
     first|refine oL hM ?_|refine oM hM ?_
     refine rK hK' hM ?_;clear hK' K';refine dC 6 (fun K' hK'=> ?_);go_wp2_with(first|refine qN (EN _) ?_|(refine qt (EB _) ?_;clear hM;intro W1 hM));refine rK hK' hM ?_;clear hK' K';refine dC 19 (fun K' hK'=> ?_);go_wp2_with(first|refine qN (EN _) ?_|(refine qt (EB _) ?_;clear hM;intro W1 hM));refine rK hK' hM ?_;clear hK' K';refine rD 20 ?_;refine rD 21 ?_;refine rD 22 ?_;refine rD 23 ?_;refine rD 24 ?_;refine qp qM ?_;go_wp2_with(first|(refine qe ?_;clear hM;intro g W hM))
     all_goals
      (go_ret;exact⟨by rw[HP.out];rfl,V,B,by rw[HP.out];exact⟨hO.out.1,Nat.le_trans hO.out.2 qg⟩,by rw[HP.out];exact qC (qC hM)⟩)
   have HP:=hide (show QA rad d lx x=(0,bT x.n d (ZN (Jj x.ci lx.crs lx.tn) x.ax x.ay lx.crs lx.tn lx.dst rad++Jk x.ax x.ay lx.crs lx.tn lx.dst rad)) by unfold QA;rw[if_neg h17,if_neg (by rw[hE];simp)]);have EO:=fun W=>iL (Jj x.ci lx.crs lx.tn) x.ax x.ay lx.crs lx.tn lx.dst rad hE W
   have PO:=fun W=>wI x.ax x.ay lx.crs lx.tn lx.dst rad hE W
   clear h17 hE;go_upto_region 7 with(first|(refine qe ?_;clear hM;intro g W hM));refine qj ?_;refine qA [(gx,x.cX,91),(gl,[.int .u8 lx.ty,.string lx.fx,.string lx.ct,.int .u8 lx.tn,.bool lx.ov,Iv lx.crs,Iv lx.dst,Iv lx.rad,Iv lx.tht,Iv lx.lo,Iv lx.hi,Iv lx.spd,Iv lx.rnp],60)] hM qM ?_;(clear hM;intro W hM);refine rD 0 ?_;refine rD 1 ?_;refine rD 2 ?_;refine rD 3 ?_;refine rD 4 ?_;refine rD 5 ?_;refine rD 7 ?_;refine rD 8 ?_;refine rD 9 ?_;refine rD 10 ?_;refine rD 11 ?_;refine rD 12 ?_;refine rD 13 ?_;refine rD 14 ?_;refine rD 15 ?_;refine rD 16 ?_;refine rD 17 ?_;refine dT 6 18 (fun K' hK'=> ?_) (fun K' hK'=> ?_)
   ·
    go_wp2_with(first|refine qN (EN _) ?_|(go_at_call 43;refine(EO _).mono ?_;rintro e0 W1 ⟨Ve,Be,rfl,hOe,hMe⟩;replace hM:=uy hM hMe;clear hMe));refine rK hK' hM ?_;clear hK' K';refine dC 18 (fun K' hK'=> ?_)
    first|refine oL hM ?_|refine oM hM ?_
    refine rK hK' hM ?_;clear hK' K';refine dC 19 (fun K' hK'=> ?_);go_wp2_with(first|refine qN (EN _) ?_|(go_at_call 43;refine(EO _).mono ?_;rintro e0 W1 ⟨Ve,Be,rfl,hOe,hMe⟩;replace hM:=uy hM hMe;clear hMe));refine rK hK' hM ?_;clear hK' K';refine rD 20 ?_;refine rD 21 ?_;refine rD 22 ?_;refine rD 23 ?_;refine rD 24 ?_;refine qp qM ?_;go_upto_region 10 with(first|(refine qe ?_;clear hM;intro g W hM));refine qj ?_;refine qA [(gx,x.cX,91),(gl,[.int .u8 lx.ty,.string lx.fx,.string lx.ct,.int .u8 lx.tn,.bool lx.ov,Iv lx.crs,Iv lx.dst,Iv lx.rad,Iv lx.tht,Iv lx.lo,Iv lx.hi,Iv lx.spd,Iv lx.rnp],60)] hM qM ?_;(clear hM;intro W hM);refine rD 0 ?_;refine rD 1 ?_;refine rD 2 ?_;refine rD 3 ?_;refine rD 4 ?_;refine rD 5 ?_;refine rD 6 ?_;refine rD 7 ?_;refine rD 8 ?_;refine rD 9 ?_;refine rD 10 ?_;refine dC 11 (fun K' hK'=> ?_)
    first|refine oL hM ?_|refine oM hM ?_
    refine rK hK' hM ?_;clear hK' K';refine dC 12 (fun K' hK'=> ?_);go_wp2_with(first|(go_at_call 45;refine(PO _).mono ?_;rintro e0 W1 ⟨gP,rfl,hMp⟩;replace hM:=uy hM hMp;clear hMp;simp only[List.cons_append,List.nil_append]at hM));refine rK hK' hM ?_;clear hK' K';refine rD 13 ?_;refine rD 14 ?_;refine rD 15 ?_;refine rD 16 ?_;refine rD 17 ?_;refine qp qM ?_;have hOe2:Hid (tO Ve (ZN (Jj x.ci lx.crs lx.tn) x.ax x.ay lx.crs lx.tn lx.dst rad) Be 3):=hide hOe;clear hOe;go_wp2_with(first|((with_reducible refine kD ?_);refine wpList_plain rfl fun _ hK=> ?_;refine LJ (k:=4) (m:=3) (Jk x.ax x.ay lx.crs lx.tn lx.dst rad) hM hOe2 qG rfl qG qG ?_;clear hM;intro ga capA BA W1 HOA hM;simp only[List.cons_append,List.nil_append]at hM;refine hK _ _ ?_)|(refine qe ?_;clear hM;intro g W hM))
    all_goals
     obtain⟨gb2,cap2,cur2,e1,rfl,e2⟩:=Jr HOA.out (by rw[List.length_append];have:(Jk x.ax x.ay lx.crs lx.tn lx.dst rad).length=4:=rfl;omega);injection e1 with e1 e3 e4;injection e1 with e1;injection e1 with e1;subst e1 e4;have l7:=HOA.out.2;go_meet;exact⟨_,_,cur2,_,by rw[←e3],hide e2,by omega,HP,qC hM⟩
   ·
    first|refine oL hM ?_|refine oM hM ?_
    refine rK hK' hM ?_;clear hK' K';refine dC 6 (fun K' hK'=> ?_);go_wp2_with(first|refine qN (EN _) ?_|(go_at_call 43;refine(EO _).mono ?_;rintro e0 W1 ⟨Ve,Be,rfl,hOe,hMe⟩;replace hM:=uy hM hMe;clear hMe));refine rK hK' hM ?_;clear hK' K';refine dC 19 (fun K' hK'=> ?_);go_wp2_with(first|refine qN (EN _) ?_|(go_at_call 43;refine(EO _).mono ?_;rintro e0 W1 ⟨Ve,Be,rfl,hOe,hMe⟩;replace hM:=uy hM hMe;clear hMe));refine rK hK' hM ?_;clear hK' K';refine rD 20 ?_;refine rD 21 ?_;refine rD 22 ?_;refine rD 23 ?_;refine rD 24 ?_;refine qp qM ?_;go_upto_region 10 with(first|(refine qe ?_;clear hM;intro g W hM));refine qj ?_;refine qA [(gx,x.cX,91),(gl,[.int .u8 lx.ty,.string lx.fx,.string lx.ct,.int .u8 lx.tn,.bool lx.ov,Iv lx.crs,Iv lx.dst,Iv lx.rad,Iv lx.tht,Iv lx.lo,Iv lx.hi,Iv lx.spd,Iv lx.rnp],60)] hM qM ?_;(clear hM;intro W hM);refine rD 0 ?_;refine rD 1 ?_;refine rD 2 ?_;refine rD 3 ?_;refine rD 4 ?_;refine rD 5 ?_;refine rD 6 ?_;refine rD 7 ?_;refine rD 8 ?_;refine rD 9 ?_;refine rD 10 ?_;refine dC 11 (fun K' hK'=> ?_)
    first|refine oL hM ?_|refine oM hM ?_
    refine rK hK' hM ?_;clear hK' K';refine dC 12 (fun K' hK'=> ?_);go_wp2_with(first|(go_at_call 45;refine(PO _).mono ?_;rintro e0 W1 ⟨gP,rfl,hMp⟩;replace hM:=uy hM hMp;clear hMp;simp only[List.cons_append,List.nil_append]at hM));refine rK hK' hM ?_;clear hK' K';refine rD 13 ?_;refine rD 14 ?_;refine rD 15 ?_;refine rD 16 ?_;refine rD 17 ?_;refine qp qM ?_;have hOe2:Hid (tO Ve (ZN (Jj x.ci lx.crs lx.tn) x.ax x.ay lx.crs lx.tn lx.dst rad) Be 3):=hide hOe;clear hOe;go_wp2_with(first|((with_reducible refine kD ?_);refine wpList_plain rfl fun _ hK=> ?_;refine LJ (k:=4) (m:=3) (Jk x.ax x.ay lx.crs lx.tn lx.dst rad) hM hOe2 qG rfl qG qG ?_;clear hM;intro ga capA BA W1 HOA hM;simp only[List.cons_append,List.nil_append]at hM;refine hK _ _ ?_)|(refine qe ?_;clear hM;intro g W hM))
    all_goals
     obtain⟨gb2,cap2,cur2,e1,rfl,e2⟩:=Jr HOA.out (by rw[List.length_append];have:(Jk x.ax x.ay lx.crs lx.tn lx.dst rad).length=4:=rfl;omega);injection e1 with e1 e3 e4;injection e1 with e1;injection e1 with e1;subst e1 e4;have l7:=HOA.out.2;go_meet;exact⟨_,_,cur2,_,by rw[←e3],hide e2,by omega,HP,qC hM⟩
 case rest=>
 clear hM;obtain⟨ga,cap,cur,es,rfl,hcur,hes,HP,hM⟩:=hcut;go_wp2_with(first|(refine qe ?_;clear hM;intro g W hM));go_loopw [88] (fun i wx=>∃(k:Nat) (Vk:Value) (Bk:List qZ),k≤es.length∧i=Iv k∧Hid (tO Vk (bT x.n d (es.take k)).els Bk (m+k))∧qF w0 wx ((ga,cur,53)::(gx,x.cX,91)::(gl,[.int .u8 lx.ty,.string lx.fx,.string lx.ct,.int .u8 lx.tn,.bool lx.ov,Iv lx.crs,Iv lx.dst,Iv lx.rad,Iv lx.tht,Iv lx.lo,Iv lx.hi,Iv lx.spd,Iv lx.rnp],60)::(gd,bq Vk (bT x.n d (es.take k)) rad,88)::(Bk++R))) (fun i _=>es.length-(intOf i).toNat)
 case atStart=>exact⟨0,V,B,Nat.zero_le _,rfl,hO,hM⟩
 case round=>
  clear hM;obtain⟨k,Vk,Bk,hk,rfl,hOk,hM⟩:=hrel;obtain⟨dk,hdk⟩:∃dk,bT x.n d (es.take k)=dk:=⟨_,rfl⟩;rw[hdk]at hOk hM;by_cases hlt:k<es.length
  ·obtain⟨e,he⟩:∃e,es[k]? =some e:=⟨_,List.getElem?_eq_getElem hlt⟩;have HC:=hide (VP hcur.out rfl he);have HN:=hide (show bT x.n d (es.take (k+1))=if 1≤e.L then ZO dk {e with n:=x.n}else dk by rw[wD he,KU,hdk]);clear hdk he;by_cases h1:1≤e.L
   ·go_wp2_with(first|(go_at_call 39;(with_reducible refine cD hM (fun R' hM'=>YK e.c e.ax e.ay e.bx e.b_y e.cx e.cy e.r e.f e.s e.L x.n e.g hM' hOk) ?_);clear hM;intro d1 V1 B1 W1 hd1 hO1 hM;simp only[List.cons_append,List.nil_append]at hM)|((with_reducible refine lX ?_);refine FE hM rfl rfl rfl (by((repeat constructor)<;>fail)) HC.out ?_)|(refine qe ?_;clear hM;intro g W hM))
    all_goals
     go_roundw
     case rel=>exact⟨k+1,V1,B1,hlt,by go_num,by rw[HN.out,if_pos h1];rw[show ZO dk {e with n:=x.n}=d1 from hd1.out];exact hO1,by rw[HN.out,if_pos h1];rw[show ZO dk {e with n:=x.n}=d1 from hd1.out];exact qC hM⟩
     case measure=>simp[intOf];omega
   ·go_wp2_with(first|((with_reducible refine lX ?_);refine FE hM rfl rfl rfl (by((repeat constructor)<;>fail)) HC.out ?_)|(refine qe ?_;clear hM;intro g W hM))
    all_goals
     go_roundw
     case rel=>exact⟨k+1,Vk,Bk,hlt,by go_num,by rw[HN.out,if_neg h1];exact hide ⟨hOk.out.1,Nat.le_trans hOk.out.2 qg⟩,by rw[HN.out,if_neg h1];exact qC hM⟩
     case measure=>simp[intOf];omega
  ·have hke:k=es.length:=qg;have HE:=hide (show bT x.n d es=dk by rw[←hdk,hke,List.take_length]);clear hdk;go_wp2_with(first|(refine qe ?_;clear hM;intro g W hM))
   all_goals
    have e2:(QA rad d lx x).2=dk:=by rw[HP.out];exact HE.out
    have e1:(QA rad d lx x).1=0:=by rw[HP.out]
    (go_ret;exact⟨by rw[e1];rfl,Vk,Bk,by rw[e2];exact⟨hOk.out.1,Nat.le_trans hOk.out.2 qg⟩,by rw[e2];exact qC (qC (qC hM))⟩)
theorem Ae{rad:Int}{d:Dw}{lx ly:En}{x y:Tk}(h:x.k≠1∨y.k≠1∨x.len<1∨y.len<1∨¬(y.ax=x.bx∧y.ay=x.b_y)):ZP rad d lx ly x y=none:=by unfold ZP;rw[if_pos h]
theorem Nx{rad:Int}{d:Dw}{lx ly:En}{x y:Tk}(h:¬(x.k≠1∨y.k≠1∨x.len<1∨y.len<1∨¬(y.ax=x.bx∧y.ay=x.b_y)))(ho:lx.ov=true):ZP rad d lx ly x y=if ly.ty=4 then Vv rad d x y else none:=by unfold ZP;rw[if_neg h,if_pos ho]
theorem Af{rad:Int}{d:Dw}{lx ly:En}{x y:Tk}(h:¬(x.k≠1∨y.k≠1∨x.len<1∨y.len<1∨¬(y.ax=x.bx∧y.ay=x.b_y)))(ho:lx.ov=false):
 ZP rad d lx ly x y=if lx.ty=7∨lx.ty=8∨lx.ty=9∨lx.ty=10∨lx.ty=11∨lx.ty=12 then none else(aJ rad d x y).map (fun d'=>(d',y)):=by unfold ZP;rw[if_neg h,if_neg (by rw[ho];simp)]
theorem cT{f:FuncId}{xs:Array Value}{w0 W:World}{L pr:List qZ}{gd gT:Nat}{cs cs':List Value}{rad:Int}{V v:Value}{d d':Dw}{B R:List qZ}{m:Nat}{Q:Ending→World→Prop}(hM:qF w0 W L)
 (hc:∀R',qF w0 W ((gd,bq V d rad,88)::(B++((gT,cs,91)::R')))→Calls Tryz.prog f xs W fun e w'=>e= .returned v∧∃V' B',tO V' d'.els B' m∧qF w0 w' ((gd,bq V' d' rad,88)::(B'++((gT,cs',91)::R'))))
 (h:∀V' B' W1,Hid (tO V' d'.els B' m)→qF w0 W1 (pr++(gd,bq V' d' rad,88)::(B'++((gT,cs',91)::R)))→Q (.returned v) W1) (hs:Sd L pr gd (bq V d rad) 88 B ((gT,cs,91)::R):=by((repeat constructor)<;>fail)):Calls Tryz.prog f xs W Q:=by
 have h1:=hs.eq;subst h1;have p:∀(V':Value) (d':Dw) (B':List qZ) (c:List Value),(pr++(gd,bq V' d' rad,88)::(B'++((gT,c,91)::R))).Perm ((gd,bq V' d' rad,88)::(B'++((gT,c,91)::(pr++R)))):=fun V' d' B' c=>(VN pr _ B' _).trans (.cons _ (List.Perm.append_left _ List.perm_middle))
 refine(hc (pr++R) (qW hM (p V d B cs))).mono ?_;rintro e w' ⟨rfl,V',B',h3,h4⟩;exact h V' B' w' (hide h3) (qW h4 (p V' d' B' cs').symm)
theorem LQ{f:FuncId}{xs:Array Value}{w0 W:World}{L pr:List qZ}{gd:Nat}{rad:Int}{V v:Value}{d d':Dw}{B R:List qZ}{m:Nat}{Q:Ending→World→Prop}(hM:qF w0 W L)
 (hc:∀R',qF w0 W ((gd,bq V d rad,88)::(B++R'))→Calls Tryz.prog f xs W fun e w'=>e= .returned v∧∃V' B',tO V' d'.els B' m∧qF w0 w' ((gd,bq V' d' rad,88)::(B'++R')))
 (h:∀V' B' W1,Hid (tO V' d'.els B' m)→qF w0 W1 (pr++(gd,bq V' d' rad,88)::(B'++R))→Q (.returned v) W1) (hs:Sd L pr gd (bq V d rad) 88 B R:=by((repeat constructor)<;>fail)):Calls Tryz.prog f xs W Q:=
 cD hM hc (fun d1 V' B' W1 e ho hM'=>by
  have e:=e.out;subst e
  exact h V' B' W1 ho hM') hs
theorem QH{d:List El}{V:Value}{B:List qZ}{m k:Nat}(h:tO V d B m):tO V d B (m+k):=⟨h.1,Nat.le_trans h.2 qg⟩
set_option maxRecDepth 100000 in
set_option maxHeartbeats 8000000 in
theorem mV{w0 w:World}{gd:Nat}{rad:Int}{V:Value}{d:Dw}{B R:List qZ}{m gT o:Nat}{pre post:List Value}(pa pb:ByteArray)(b0 o0 n0 cap:Nat)(act:Int)(lx ly:En)(x y:Tk)(jx jy:Nat)(t:Option (Dw×Tk))(ht:Hid (t=ZP rad d lx ly x y))(hr:1≤rad)(hr8:rad≤8000000)(hx: -129600000≤x.co∧x.co≤259200000)(hy: -129600000≤y.ci∧y.ci≤259200000)
 (hxl:x.k=1→x.len≤8000000) (hyl:y.k=1→y.len≤8000000) (hxn0:Hid (x.n=(jx:Int))) (hyn0:Hid (y.n=(jy:Int))) (hjx:jx<n0) (hjy:jy<n0) (hn60:n0≤60) (hatx:Hid (xA w0 b0 (o0+jx*20) lx)) (haty:Hid (xA w0 b0 (o0+jy*20) ly)) (hpre:Hid (pre.length=o))
 (hM:qF w0 w ((gd,bq V d rad,88)::(B++((gT,pre++mid y.cX post,91)::R)))) (hO:Hid (tO V d.els B m)) (hm:m≤80000:=by omega):
 Calls Tryz.prog 16 #[.pointer (some ⟨gd,0,none⟩),.agg #[.string pa,.string pb,.slice (some ⟨b0,o0,none⟩) n0 cap,Iv act],.agg x.cX.toArray,.pointer (some ⟨gT,o,none⟩)] w fun e w'=>e= .returned (.bool t.isSome)∧∃V' B',tO V' ((t.map (·.1)).getD d).els B' (m+3)∧qF w0 w' ((gd,bq V' ((t.map (·.1)).getD d) rad,88)::(B'++((gT,pre++mid ((t.map (·.2)).getD y).cells post,91)::R))):=by
 go_enter Tryz.func16,Tryz.ntmps16;go_upto_region 0 with fail;refine qj ?_;go_cut [6,5] (fun s6 s5 wx=>∃gx gp:Nat,s6= .pointer (some ⟨gx,0,none⟩)∧s5= .pointer (some ⟨gp,0,none⟩)∧qF w0 wx ((gx,x.cX,91)::(gp,[.string pa,.string pb,.slice (some ⟨b0,o0,none⟩) n0 cap,Iv act],24)::((gd,bq V d rad,88)::(B++((gT,pre++mid y.cX post,91)::R)))))
 case first=>
  go_wp2_with(first|(refine qe ?_;clear hM;intro g W hM))
  all_goals
   go_meet;exact⟨_,_,rfl,rfl,hM⟩
 case rest=>
 clear hM;obtain⟨gx,gp,rfl,rfl,hM⟩:=hcut;go_upto_region 1 with(first|(refine qe ?_;clear hM;intro g W hM));refine qj ?_;by_cases hno:x.k≠1∨y.k≠1∨x.len<1∨y.len<1∨¬(y.ax=x.bx∧y.ay=x.b_y)
 ·have hn:=hide (show t=none from ht.out.trans (Ae hno))
  have hcs:(x.k !=1)=true∨((x.k !=1)=false∧(y.k !=1)=true)∨((x.k !=1)=false∧(y.k !=1)=false∧decide (x.len<1)=true)∨((x.k !=1)=false∧(y.k !=1)=false∧¬x.len<1∧decide (y.len<1)=true)∨((x.k !=1)=false∧(y.k !=1)=false∧¬x.len<1∧¬y.len<1∧¬(y.ax=x.bx∧y.ay=x.b_y)):=by
   by_cases z1:x.k=1
   ·by_cases z2:y.k=1
    ·by_cases z3:x.len<1
     ·exact .inr (.inr (.inl ⟨by simpa using z1,by simpa using z2,decide_eq_true z3⟩))
     ·by_cases z4:y.len<1
      ·exact .inr (.inr (.inr (.inl ⟨by simpa using z1,by simpa using z2,z3,decide_eq_true z4⟩)))
      ·refine .inr (.inr (.inr (.inr ⟨by simpa using z1,by simpa using z2,z3,z4,fun h=> ?_⟩)));rcases hno with h1|h1|h1|h1|h1
       ·exact h1 z1
       ·exact h1 z2
       ·exact z3 h1
       ·exact z4 h1
       ·exact h1 h
    ·exact .inr (.inl ⟨by simpa using z1,by simpa using z2⟩)
   ·exact .inl (by simpa using z1)
  clear hno ht;rcases hcs with z1|⟨z1,z2⟩|⟨z1,z2,z3⟩|⟨z1,z2,z3,z4⟩|⟨z1,z2,z3,z4,z5⟩
  iterate 4
   ·(
    refine qA [(gx,x.cX,91),(gT,pre++mid y.cX post,91)] hM qM ?_;(clear hM;intro W hM);refine rD 0 ?_;refine rD 1 ?_;refine rD 2 ?_;refine rD 3 ?_;refine rE 4 ?_;refine rE 5 ?_;refine rE 6 ?_
    first|refine eL 7 hM ?_ (hv:=Fm hpre.out rfl)|refine eS 7 hM ?_
    refine qj ?_;refine rE 8 ?_;refine rD 9 ?_;refine rD 10 ?_;refine rE 11 ?_;refine rE 12 ?_;refine rE 13 ?_;refine rD 14 ?_;refine rD 15 ?_;refine rE 16 ?_;refine rE 17 ?_;refine rE 18 ?_
    first|refine eL 19 hM ?_ (hv:=Zy hpre.out rfl)|refine eS 19 hM ?_
    refine qj ?_;refine rE 20 ?_;refine rD 21 ?_;refine rD 22 ?_;refine rE 23 ?_;refine rE 24 ?_;refine rE 25 ?_
    first|refine eM 26 hM ?_ (hC:=kB hpre.out (by((repeat constructor)<;>fail)))|refine eS 26 hM ?_
    refine qj ?_;refine rE 27 ?_;refine rE 28 ?_;refine rE 29 ?_;refine rD 30 ?_;refine qp qM ?_;go_wp2_with(first|(refine qe ?_;clear hM;intro g W hM))
    all_goals
     (go_ret;exact⟨by rw[hn.out];rfl,V,B,by rw[hn.out];exact QH hO.out,by rw[hn.out];exact qC (qC (hM))⟩)
    )
  ·(
   refine qA [(gx,x.cX,91),(gT,pre++mid y.cX post,91)] hM qM ?_;(clear hM;intro W hM);refine rD 0 ?_;refine rD 1 ?_;refine rD 2 ?_;refine rD 3 ?_;refine rE 4 ?_;refine rE 5 ?_;refine rE 6 ?_
   first|refine eL 7 hM ?_ (hv:=Fm hpre.out rfl)|refine eS 7 hM ?_
   refine qj ?_;refine rE 8 ?_;refine rD 9 ?_;refine rD 10 ?_;refine rE 11 ?_;refine rE 12 ?_;refine rE 13 ?_;refine rD 14 ?_;refine rD 15 ?_;refine rE 16 ?_;refine rE 17 ?_;refine rE 18 ?_
   first|refine eL 19 hM ?_ (hv:=Zy hpre.out rfl)|refine eS 19 hM ?_
   refine qj ?_;refine rE 20 ?_;refine rD 21 ?_;refine rD 22 ?_;refine rE 23 ?_;refine rE 24 ?_;refine rE 25 ?_
   first|refine eM 26 hM ?_ (hC:=kB hpre.out (by((repeat constructor)<;>fail)))|refine eS 26 hM ?_
   refine qj ?_;refine rE 27 ?_;refine rE 28 ?_
   first|refine eP 29 (v:= .bool true) hM ?_ (hv:=by(intro W0;go_simp;exact fun h1 h2=>z5 ⟨h1,h2⟩))|refine eS 29 hM ?_
   refine qj ?_;refine rD 30 ?_;refine qp qM ?_;go_wp2_with(first|(refine qe ?_;clear hM;intro g W hM))
   all_goals
    (go_ret;exact⟨by rw[hn.out];rfl,V,B,by rw[hn.out];exact QH hO.out,by rw[hn.out];exact qC (qC (hM))⟩)
   )
 have z1:(x.k !=1)=false:=by simp;omega
 have z2:(y.k !=1)=false:=by simp;omega
 have z3:¬x.len<1:=qg;have z4:¬y.len<1:=qg;have z5:y.ax=x.bx∧y.ay=x.b_y:=qg;have z6:=z5.1;have z7:=z5.2;have HNO:=hide hno;clear hno;refine qA [(gx,x.cX,91),(gT,pre++mid y.cX post,91)] hM qM ?_;(clear hM;intro W hM);refine rD 0 ?_;refine rD 1 ?_;refine rD 2 ?_;refine rD 3 ?_;refine rE 4 ?_;refine rE 5 ?_;refine rE 6 ?_
 first|refine eL 7 hM ?_ (hv:=Fm hpre.out rfl)|refine eS 7 hM ?_
 refine qj ?_;refine rE 8 ?_;refine rD 9 ?_;refine rD 10 ?_;refine rE 11 ?_;refine rE 12 ?_;refine rE 13 ?_;refine rD 14 ?_;refine rD 15 ?_;refine rE 16 ?_;refine rE 17 ?_;refine rE 18 ?_
 first|refine eL 19 hM ?_ (hv:=Zy hpre.out rfl)|refine eS 19 hM ?_
 refine qj ?_;refine rE 20 ?_;refine rD 21 ?_;refine rD 22 ?_;refine rE 23 ?_;refine rE 24 ?_;refine rE 25 ?_
 first|refine eM 26 hM ?_ (hC:=kB hpre.out (by((repeat constructor)<;>fail)))|refine eS 26 hM ?_
 refine qj ?_;refine rE 27 ?_;refine rE 28 ?_
 first|refine eP 29 (v:= .bool false) hM ?_ (hv:=by(intro W0;go_simp;(try rw[if_pos z6,if_pos z7])))|refine eS 29 hM ?_
 refine qj ?_;refine rD 30 ?_;refine qp qM ?_;clear z5 z6 z7;have z1':=hide (show x.k=1 by simpa using z1);have z2':=hide (show y.k=1 by simpa using z2);clear z1 z2;go_upto_region 3 with(first|(refine qe ?_;clear hM;intro g W hM));have hxn:=hxn0.out;go_upto_region 4 with(first|((with_reducible refine lX ?_);refine yL hM rfl (by first|exact rfl|(go_simp;done)) rfl (Zg rfl) (Bp hatx.out) (bQ rfl) ?_)|(refine qe ?_;clear hM;intro g W hM));refine qj ?_;clear hxn;rcases hov:lx.ov with _|_
 ·have HT:=hide (ht.out.trans (Af HNO.out hov));rw[hov]at hM;clear HNO hov;by_cases hty:lx.ty=7∨lx.ty=8∨lx.ty=9∨lx.ty=10∨lx.ty=11∨lx.ty=12
  ·have hn:=hide (show t=none by rw[HT.out,if_pos hty]);clear HT ht
   have hcs:(lx.ty==9)=true∨((lx.ty==9)=false∧(lx.ty==7)=true)∨((lx.ty==9)=false∧(lx.ty==7)=false∧(lx.ty==8)=true)∨((lx.ty==9)=false∧(lx.ty==7)=false∧(lx.ty==8)=false∧(lx.ty==10)=true)∨((lx.ty==9)=false∧(lx.ty==7)=false∧(lx.ty==8)=false∧(lx.ty==10)=false∧(lx.ty==11)=true)∨((lx.ty==9)=false∧(lx.ty==7)=false∧(lx.ty==8)=false∧(lx.ty==10)=false∧(lx.ty==11)=false∧(lx.ty==12)=true):=by
    rcases hty with h|h|h|h|h|h<;>rw[h]<;>decide
   clear hty;rcases hcs with f9|⟨f9,f7⟩|⟨f9,f7,f8⟩|⟨f9,f7,f8,f10⟩|⟨f9,f7,f8,f10,f11⟩|⟨f9,f7,f8,f10,f11,f12⟩
   all_goals
    go_wp2_with(first|(refine qe ?_;clear hM;intro g W hM))
    all_goals
     (go_ret;exact⟨by rw[hn.out];rfl,V,B,by rw[hn.out];exact QH hO.out,by rw[hn.out];exact qC (qC (qC (hM)))⟩)
  ·have f9:(lx.ty==9)=false:=by simp;omega
   have f7:(lx.ty==7)=false:=by simp;omega
   have f8:(lx.ty==8)=false:=by simp;omega
   have f10:(lx.ty==10)=false:=by simp;omega
   have f11:(lx.ty==11)=false:=by simp;omega
   have f12:(lx.ty==12)=false:=by simp;omega
   obtain⟨t2,ht0⟩:∃t2,t2=aJ rad d x y:=⟨_,rfl⟩;have e2:t=t2.map (fun d'=>(d',y)):=by rw[HT.out,if_neg hty,ht0]
   have ht2:=hide ht0;have he2:=hide e2;clear HT ht hty ht0 e2;go_upto_region 14 with(first|(refine qe ?_;clear hM;intro g W hM));refine qj ?_;refine qA [(gx,x.cX,91),(gT,pre++mid y.cX post,91)] hM qM ?_;(clear hM;intro W hM);refine rD 0 ?_;refine rD 1 ?_;refine rD 2 ?_;refine rD 3 ?_;refine dM 4 hM ?_ (hC:=xk hpre.out (by((repeat constructor)<;>fail)));refine qj ?_;refine dC 5 (fun K' hK'=> ?_);go_wp2_with(first|(go_at_call 47;refine LQ hM (fun R' hM'=>Nt x y t2 ht2 hr hr8 qg (hxl z1'.out) qg (hyl z2'.out) hM' hO) ?_;clear hM hO;intro V1 B1 W1 hO1 hM;simp only[List.cons_append,List.nil_append]at hM));refine rK hK' hM ?_;clear hK' K';refine rD 6 ?_;refine qp qM ?_;have e2:=he2.out;subst e2;clear he2;go_wp2_with(first|(refine qe ?_;clear hM;intro g W hM))
   all_goals
    (go_ret;exact⟨by cases t2<;>rfl,V1,B1,by cases t2<;>exact hO1.out,by cases t2<;>exact qC (qC (qC hM))⟩)
 ·have HT:=hide (ht.out.trans (Nx HNO.out hov));rw[hov]at hM;clear HNO hov;by_cases h4:ly.ty=4
  ·have ht2:Hid (t=Vv rad d x y):=hide (by rw[HT.out,if_pos h4]);have k4:(ly.ty==4)=true:=by simpa using h4
   clear HT ht h4;go_upto_region 5 with(first|(refine qe ?_;clear hM;intro g W hM));refine qj ?_;refine qA [(gx,x.cX,91),(gp,[.string pa,.string pb,.slice (some ⟨b0,o0,none⟩) n0 cap,Iv act],24)] hM qM ?_;(clear hM;intro W hM);refine rD 0 ?_;refine rD 1 ?_;refine rD 2 ?_;refine rD 3 ?_;refine rD 4 ?_;refine dC 5 (fun K' hK'=> ?_);refine oL hM ?_ (hv:=Zy hpre.out rfl);refine rK hK' hM ?_;clear hK' K';refine dC 6 (fun K' hK'=> ?_);have hyn:=hyn0.out;go_wp2_with fail;clear hyn;refine rK hK' hM ?_;clear hK' K';refine rD 7 ?_;refine rD 8 ?_;refine dC 9 (fun K' hK'=> ?_);refine oO hM (eH haty.out) ?_;refine rK hK' hM ?_;clear hK' K';refine rD 10 ?_;refine rD 11 ?_;refine rE 12 ?_;refine rE 13 ?_;refine rE 14 ?_
   first
    |refine LG 15 hM ?_
    |(refine eC 15 (fun K' hK'=> ?_)
      go_wp2_with(first|(go_at_call 46;refine cT hM (fun R' hM'=>fE x y t ht2 hr hr8 hx hy hpre hM' hO) ?_;clear hM hO;intro V1 B1 W1 hO1 hM;simp only[List.cons_append,List.nil_append]at hM))
      refine rK hK' hM ?_;clear hK' K')
   refine rD 16 ?_;refine rD 17 ?_;refine qp qM ?_;go_wp2_with(first|(refine qe ?_;clear hM;intro g W hM))
   all_goals
    (go_ret;exact⟨rfl,V1,B1,⟨hO1.out.1,Nat.le_trans hO1.out.2 qg⟩,qC (qC (qC hM))⟩)
  ·have hn:=hide (show t=none by rw[HT.out,if_neg h4]);have k4:(ly.ty==4)=false:=by simpa using h4
   clear HT ht h4;go_upto_region 5 with(first|(refine qe ?_;clear hM;intro g W hM));refine qj ?_;refine qA [(gx,x.cX,91),(gp,[.string pa,.string pb,.slice (some ⟨b0,o0,none⟩) n0 cap,Iv act],24)] hM qM ?_;(clear hM;intro W hM);refine rD 0 ?_;refine rD 1 ?_;refine rD 2 ?_;refine rD 3 ?_;refine rD 4 ?_;refine dC 5 (fun K' hK'=> ?_);refine oL hM ?_ (hv:=Zy hpre.out rfl);refine rK hK' hM ?_;clear hK' K';refine dC 6 (fun K' hK'=> ?_);have hyn:=hyn0.out;go_wp2_with fail;clear hyn;refine rK hK' hM ?_;clear hK' K';refine rD 7 ?_;refine rD 8 ?_;refine dC 9 (fun K' hK'=> ?_);refine oO hM (eH haty.out) ?_;refine rK hK' hM ?_;clear hK' K';refine rD 10 ?_;refine rD 11 ?_;refine rE 12 ?_;refine rE 13 ?_;refine rE 14 ?_
   first
    |refine LG 15 hM ?_
    |(refine eC 15 (fun K' hK'=> ?_)
      go_wp2_with fail
      refine rK hK' hM ?_;clear hK' K')
   refine rD 16 ?_;refine rD 17 ?_;refine qp qM ?_;go_wp2_with(first|(refine qe ?_;clear hM;intro g W hM))
   all_goals
    (go_ret;exact⟨by rw[hn.out];rfl,V,B,by rw[hn.out];exact QH hO.out,by rw[hn.out];exact qC (qC (qC (hM)))⟩)
end Go.Proofs.YtiegohjobhehcaaGreatDoor
