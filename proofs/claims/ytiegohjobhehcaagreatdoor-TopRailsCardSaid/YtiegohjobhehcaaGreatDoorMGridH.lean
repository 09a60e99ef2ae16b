/-
  The blend of two values.
-/
import Derived.Test.YtiegohjobhehcaaGreatDoorMGridA
set_option maxRecDepth 100000
set_option maxHeartbeats 16000000
namespace Go.Proofs.YtiegohjobhehcaaGreatDoor
open Go.RowKit
set_option linter.unusedVariables false
set_option linter.unusedSimpArgs false
theorem zMGridH0{P:Prop}(h:P:=by exact⟨(_,_,_,_),rfl,⟨by first|exact zg|assumption|exact zi _|exact ze _|exact⟨qG,qG⟩,by first|exact zg|assumption|exact zi _|exact ze _|exact⟨qG,qG⟩,by first|exact zg|assumption|exact zi _|exact ze _|exact⟨qG,qG⟩,by first|exact zg|assumption|exact zi _|exact ze _|exact⟨qG,qG⟩⟩,hM.below⟩):P:=h
theorem iD(c1 c2 c3 c4:Value)(i f c:Int)(w:World)(hi:0≤i∧i≤1000000)(hf:qz f)(hc:qz c)(H:∀(j:Int) (W1:World) (L1:List qZ),qF w W1 L1→(j=i∨(f≠0∧j=i+1))→Calls Tryz.prog 125 #[Iv j,c1,c2,c3,c4] W1 (kY (fun _=>True) W1)):
 Calls Tryz.prog 124 #[.agg #[Iv i,Iv f,Iv c],.func (.func 125) #[] #[c1,c2,c3,c4]] w (kY (fun _=>True) w):=by
 have hM:=qo w;have w1:=IntWalk.i64_in (i+1) qg;by_cases hz:f=0
 ·subst hz;go_enter Tryz.func124,Tryz.ntmps124;go_wp2_with(first|(refine qe ?_;clear hM;intro g W hM)|(go_at_call 125;(with_reducible refine cx hM (H _ _ _ hM (.inl rfl)) ?_);clear hM;rintro u W1 ⟨hu,-⟩ hM))
  all_goals(go_ret;exact⟨_,rfl,⟨qY,trivial⟩,hM.below⟩)
 ·have hz1:(f==0)=false:=by simpa using hz
  go_enter Tryz.func124,Tryz.ntmps124;go_upto_region 1 with(first|(refine qe ?_;clear hM;intro g W hM));obtain⟨gp,rfl⟩:=uC hM;go_upto_region 4 with(first|refine zC ?_|(go_at_call 125;(with_reducible refine cx hM (H _ _ _ hM (.inl rfl)) ?_);clear hM;rintro u W1 ⟨hu,-⟩ hM));go_cut [6] (fun s wx=>∃q,s=Iv q∧qz q∧qF w wx [(gp,[Iv i,Iv f,Iv c],207)])
  case first=>
   refine qA [(gp,[Iv i,Iv f,Iv c],207)] hM qM ?_;(clear hM;intro W hM);refine rD 0 ?_;refine rD 1 ?_;refine rD 2 ?_;refine rD 3 ?_;refine rD 5 ?_;refine rD 7 ?_;refine rD 8 ?_;refine rD 10 ?_;refine rD 11 ?_;refine dC 4 (fun K' hK'=> ?_);go_wp2_with(first|(go_at_call 125;(with_reducible refine cx hM (H _ _ _ hM (.inr ⟨hz,rfl⟩)) ?_);clear hM;rintro v W1 ⟨hv,-⟩ hM)|(go_at_call 188;(with_reducible refine cx hM (tQ _ _ _ (by first|assumption|exact zi _|exact ze _) (by first|assumption|exact zi _|exact ze _)) ?_);clear hM;rintro⟨q1,q2⟩ W1 ⟨hq1,-⟩ hM;dsimp only at hq1;try dsimp only));refine rK hK' hM ?_;clear hK' K';refine rD 6 ?_;refine rD 9 ?_;refine dC 12 (fun K' hK'=> ?_);go_wp2_with(first|(go_at_call 125;(with_reducible refine cx hM (H _ _ _ hM (.inr ⟨hz,rfl⟩)) ?_);clear hM;rintro v W1 ⟨hv,-⟩ hM)|(go_at_call 188;(with_reducible refine cx hM (tQ _ _ _ (by first|assumption|exact zi _|exact ze _) (by first|assumption|exact zi _|exact ze _)) ?_);clear hM;rintro⟨q1,q2⟩ W1 ⟨hq1,-⟩ hM;dsimp only at hq1;try dsimp only));refine rK hK' hM ?_;clear hK' K';refine rD 13 ?_;refine rD 14 ?_;refine rD 15 ?_;refine rD 16 ?_;refine rD 17 ?_;refine qp qM ?_;go_wp2_with fail
   all_goals
    go_meet;exact⟨_,rfl,by assumption,hM⟩
  case rest=>
  clear hM;obtain⟨q,rfl,hq,hM⟩:=hcut;go_wp2_with(first|refine zC ?_)
  all_goals(go_ret;exact⟨_,rfl,⟨by first|exact zi _|exact ze _,trivial⟩,hM.below⟩)
theorem iE(c1 c2 c3 c4:Value)(i f c:Int)(w:World)(hi:0≤i∧i≤1000000)(hf:qz f)(hc:qz c)(H:∀(j:Int) (W1:World) (L1:List qZ),qF w W1 L1→(j=i∨(f≠0∧j=i+1))→Calls Tryz.prog 126 #[Iv j,c1,c2,c3,c4] W1 (kY (fun _=>True) W1)):
 Calls Tryz.prog 124 #[.agg #[Iv i,Iv f,Iv c],.func (.func 126) #[] #[c1,c2,c3,c4]] w (kY (fun _=>True) w):=by
 have hM:=qo w;have w1:=IntWalk.i64_in (i+1) qg;by_cases hz:f=0
 ·subst hz;go_enter Tryz.func124,Tryz.ntmps124;go_wp2_with(first|(refine qe ?_;clear hM;intro g W hM)|(go_at_call 126;(with_reducible refine cx hM (H _ _ _ hM (.inl rfl)) ?_);clear hM;rintro u W1 ⟨hu,-⟩ hM))
  all_goals(go_ret;exact⟨_,rfl,⟨qY,trivial⟩,hM.below⟩)
 ·have hz1:(f==0)=false:=by simpa using hz
  go_enter Tryz.func124,Tryz.ntmps124;go_upto_region 1 with(first|(refine qe ?_;clear hM;intro g W hM));obtain⟨gp,rfl⟩:=uC hM;go_upto_region 4 with(first|refine zC ?_|(go_at_call 126;(with_reducible refine cx hM (H _ _ _ hM (.inl rfl)) ?_);clear hM;rintro u W1 ⟨hu,-⟩ hM));go_cut [6] (fun s wx=>∃q,s=Iv q∧qz q∧qF w wx [(gp,[Iv i,Iv f,Iv c],207)])
  case first=>
   refine qA [(gp,[Iv i,Iv f,Iv c],207)] hM qM ?_;(clear hM;intro W hM);refine rD 0 ?_;refine rD 1 ?_;refine rD 2 ?_;refine rD 3 ?_;refine rD 5 ?_;refine rD 7 ?_;refine rD 8 ?_;refine rD 10 ?_;refine rD 11 ?_;refine dC 4 (fun K' hK'=> ?_);go_wp2_with(first|(go_at_call 126;(with_reducible refine cx hM (H _ _ _ hM (.inr ⟨hz,rfl⟩)) ?_);clear hM;rintro v W1 ⟨hv,-⟩ hM)|(go_at_call 188;(with_reducible refine cx hM (tQ _ _ _ (by first|assumption|exact zi _|exact ze _) (by first|assumption|exact zi _|exact ze _)) ?_);clear hM;rintro⟨q1,q2⟩ W1 ⟨hq1,-⟩ hM;dsimp only at hq1;try dsimp only));refine rK hK' hM ?_;clear hK' K';refine rD 6 ?_;refine rD 9 ?_;refine dC 12 (fun K' hK'=> ?_);go_wp2_with(first|(go_at_call 126;(with_reducible refine cx hM (H _ _ _ hM (.inr ⟨hz,rfl⟩)) ?_);clear hM;rintro v W1 ⟨hv,-⟩ hM)|(go_at_call 188;(with_reducible refine cx hM (tQ _ _ _ (by first|assumption|exact zi _|exact ze _) (by first|assumption|exact zi _|exact ze _)) ?_);clear hM;rintro⟨q1,q2⟩ W1 ⟨hq1,-⟩ hM;dsimp only at hq1;try dsimp only));refine rK hK' hM ?_;clear hK' K';refine rD 13 ?_;refine rD 14 ?_;refine rD 15 ?_;refine rD 16 ?_;refine rD 17 ?_;refine qp qM ?_;go_wp2_with fail
   all_goals
    go_meet;exact⟨_,rfl,by assumption,hM⟩
  case rest=>
  clear hM;obtain⟨q,rfl,hq,hM⟩:=hcut;go_wp2_with(first|refine zC ?_)
  all_goals(go_ret;exact⟨_,rfl,⟨by first|exact zi _|exact ze _,trivial⟩,hM.below⟩)
theorem iF(c1 c2 c3 c4:Value)(i f c:Int)(w:World)(hi:0≤i∧i≤1000000)(hf:qz f)(hc:qz c)(H:∀(j:Int) (W1:World) (L1:List qZ),qF w W1 L1→(j=i∨(f≠0∧j=i+1))→Calls Tryz.prog 127 #[Iv j,c1,c2,c3,c4] W1 (kY (fun _=>True) W1)):
 Calls Tryz.prog 124 #[.agg #[Iv i,Iv f,Iv c],.func (.func 127) #[] #[c1,c2,c3,c4]] w (kY (fun _=>True) w):=by
 have hM:=qo w;have w1:=IntWalk.i64_in (i+1) qg;by_cases hz:f=0
 ·subst hz;go_enter Tryz.func124,Tryz.ntmps124;go_wp2_with(first|(refine qe ?_;clear hM;intro g W hM)|(go_at_call 127;(with_reducible refine cx hM (H _ _ _ hM (.inl rfl)) ?_);clear hM;rintro u W1 ⟨hu,-⟩ hM))
  all_goals(go_ret;exact⟨_,rfl,⟨qY,trivial⟩,hM.below⟩)
 ·have hz1:(f==0)=false:=by simpa using hz
  go_enter Tryz.func124,Tryz.ntmps124;go_upto_region 1 with(first|(refine qe ?_;clear hM;intro g W hM));obtain⟨gp,rfl⟩:=uC hM;go_upto_region 4 with(first|refine zC ?_|(go_at_call 127;(with_reducible refine cx hM (H _ _ _ hM (.inl rfl)) ?_);clear hM;rintro u W1 ⟨hu,-⟩ hM));go_cut [6] (fun s wx=>∃q,s=Iv q∧qz q∧qF w wx [(gp,[Iv i,Iv f,Iv c],207)])
  case first=>
   refine qA [(gp,[Iv i,Iv f,Iv c],207)] hM qM ?_;(clear hM;intro W hM);refine rD 0 ?_;refine rD 1 ?_;refine rD 2 ?_;refine rD 3 ?_;refine rD 5 ?_;refine rD 7 ?_;refine rD 8 ?_;refine rD 10 ?_;refine rD 11 ?_;refine dC 4 (fun K' hK'=> ?_);go_wp2_with(first|(go_at_call 127;(with_reducible refine cx hM (H _ _ _ hM (.inr ⟨hz,rfl⟩)) ?_);clear hM;rintro v W1 ⟨hv,-⟩ hM)|(go_at_call 188;(with_reducible refine cx hM (tQ _ _ _ (by first|assumption|exact zi _|exact ze _) (by first|assumption|exact zi _|exact ze _)) ?_);clear hM;rintro⟨q1,q2⟩ W1 ⟨hq1,-⟩ hM;dsimp only at hq1;try dsimp only));refine rK hK' hM ?_;clear hK' K';refine rD 6 ?_;refine rD 9 ?_;refine dC 12 (fun K' hK'=> ?_);go_wp2_with(first|(go_at_call 127;(with_reducible refine cx hM (H _ _ _ hM (.inr ⟨hz,rfl⟩)) ?_);clear hM;rintro v W1 ⟨hv,-⟩ hM)|(go_at_call 188;(with_reducible refine cx hM (tQ _ _ _ (by first|assumption|exact zi _|exact ze _) (by first|assumption|exact zi _|exact ze _)) ?_);clear hM;rintro⟨q1,q2⟩ W1 ⟨hq1,-⟩ hM;dsimp only at hq1;try dsimp only));refine rK hK' hM ?_;clear hK' K';refine rD 13 ?_;refine rD 14 ?_;refine rD 15 ?_;refine rD 16 ?_;refine rD 17 ?_;refine qp qM ?_;go_wp2_with fail
   all_goals
    go_meet;exact⟨_,rfl,by assumption,hM⟩
  case rest=>
  clear hM;obtain⟨q,rfl,hq,hM⟩:=hcut;go_wp2_with(first|refine zC ?_)
  all_goals(go_ret;exact⟨_,rfl,⟨by first|exact zi _|exact ze _,trivial⟩,hM.below⟩)
def rowAt(w:World)(b:Nat)(cs:List Value):Prop:=∀(j:Nat) (v:Value),cs[j]? =some v→w.cell? ⟨b,0+j,none⟩=some v
theorem jQ{w W:World}{L:List qZ}(hM:qF w W L){b:Nat}{cs:List Value}(h:rowAt w b cs):rowAt W b cs:=fun j v hj=>hM.old (h j v hj)
theorem yY{w W:World}{L:List qZ}{g:Nat}{cs:List Value}{t:TypeId}(hM:qF w W L)(hl:Lk L g cs t):rowAt W g cs:=fun j v hj=>by rw[Nat.zero_add,hM.cell hl];exact hj
theorem DS(gd:Gd)(bg k:Nat)(w:World)(HG:Hid (Zz w gd))(hG:Hid (rowAt w bg gd.cells))(hk:k<gd.wi.n):Calls Tryz.prog 129 #[Iv (k:Int),.pointer (some ⟨bg,0,none⟩)] w (kY (fun _=>True) w):=by
 have hM:=qo w;obtain⟨fw,FW⟩:=HG.out.wi.2;clear HG;obtain⟨cx,cy,ce,nx,ny,⟨SA,an,ac⟩,⟨SW,wn,wc⟩,⟨SD,dn,dc⟩,er⟩:=gd;dsimp only at FW hk;obtain⟨b,o,rfl,hc,h1,h2⟩:=FW k hk;have HS:=hide (hG.out 6 (.slice (some ⟨b,o,none⟩) wn wc) rfl);have HC:=hide (hc 0 _ rfl);clear hc FW hG;go_enter Tryz.func129,Tryz.ntmps129;go_wp2_with(first|((with_reducible refine lX ?_);refine zD hM rfl (by first|exact rfl|(go_simp;done)) rfl (ur rfl) (HS.out) ?_)|((with_reducible refine lX ?_);refine zD hM rfl (by first|exact rfl|(go_simp;done)) rfl (ur rfl) (HC.out) ?_))
 all_goals(go_ret;exact⟨_,rfl,⟨h1,trivial⟩,hM.below⟩)
theorem DT(gd:Gd)(bg k:Nat)(w:World)(HG:Hid (Zz w gd))(hG:Hid (rowAt w bg gd.cells))(hk:k<gd.wi.n):Calls Tryz.prog 130 #[Iv (k:Int),.pointer (some ⟨bg,0,none⟩)] w (kY (fun _=>True) w):=by
 have hM:=qo w;obtain⟨fw,FW⟩:=HG.out.wi.2;clear HG;obtain⟨cx,cy,ce,nx,ny,⟨SA,an,ac⟩,⟨SW,wn,wc⟩,⟨SD,dn,dc⟩,er⟩:=gd;dsimp only at FW hk;obtain⟨b,o,rfl,hc,h1,h2⟩:=FW k hk;have HS:=hide (hG.out 6 (.slice (some ⟨b,o,none⟩) wn wc) rfl);have HC:=hide (hc 1 _ rfl);clear hc FW hG;go_enter Tryz.func130,Tryz.ntmps130;go_wp2_with(first|((with_reducible refine lX ?_);refine zD hM rfl (by first|exact rfl|(go_simp;done)) rfl (ur rfl) (HS.out) ?_)|((with_reducible refine lX ?_);refine zD hM rfl (by first|exact rfl|(go_simp;done)) rfl (ur rfl) (HC.out) ?_))
 all_goals(go_ret;exact⟨_,rfl,⟨h2,trivial⟩,hM.below⟩)
theorem DU(gd:Gd)(bg k:Nat)(w:World)(HG:Hid (Zz w gd))(hG:Hid (rowAt w bg gd.cells))(hk:k<gd.dv.n):Calls Tryz.prog 131 #[Iv (k:Int),.pointer (some ⟨bg,0,none⟩)] w (kY (fun _=>True) w):=by
 have hM:=qo w;obtain⟨fd,FD⟩:=HG.out.dv.2;clear HG;obtain⟨cx,cy,ce,nx,ny,⟨SA,an,ac⟩,⟨SW,wn,wc⟩,⟨SD,dn,dc⟩,er⟩:=gd;dsimp only at FD hk;obtain⟨b,o,rfl,hc,h1⟩:=FD k hk;have HS:=hide (hG.out 7 (.slice (some ⟨b,o,none⟩) dn dc) rfl);have HC:=hide hc;clear hc FD hG;go_enter Tryz.func131,Tryz.ntmps131;go_wp2_with(first|((with_reducible refine lX ?_);refine zD hM rfl (by first|exact rfl|(go_simp;done)) rfl (ur rfl) (HS.out) ?_)|((with_reducible refine lX ?_);refine zD hM rfl (by first|exact rfl|(go_simp;done)) rfl (ur rfl) (HC.out) ?_))
 all_goals(go_ret;exact⟨_,rfl,⟨h1,trivial⟩,hM.below⟩)
def Fp(F:FuncId):Prop:=F=129∨F=130∨F=131
theorem Ai(gd:Gd)(bg bo b_y bz:Nat)(F:FuncId)(x y z:Int)(w:World)(hF:Fp F)(HG:Hid (Zz w gd))(HK:Hid (UU gd))(hG:Hid (rowAt w bg gd.cells))(hO:Hid (w.cell? ⟨bo,0,none⟩=some (.func (.func F) #[] #[.pointer (some ⟨bg,0,none⟩)])))(hY:Hid (w.cell? ⟨b_y,0,none⟩=some (Iv y)))(hZ:Hid (w.cell? ⟨bz,0,none⟩=some (Iv z)))
 (hx:0≤x∧x<gd.nx) (hy:0≤y∧y<gd.ny) (hz:0≤z∧z<gd.al.n):Calls Tryz.prog 127 #[Iv x,.pointer (some ⟨bo,0,none⟩),.pointer (some ⟨bg,0,none⟩),.pointer (some ⟨b_y,0,none⟩),.pointer (some ⟨bz,0,none⟩)] w (kY (fun _=>True) w):=by
 have hM:=qo w;rcases hF with rfl|rfl|rfl
 all_goals
  go_enter Tryz.func127,Tryz.ntmps127;go_upto_region 1 with(first|(refine qe ?_;clear hM;intro g W hM));refine qj ?_;refine qA [] hM qM ?_;(clear hM;intro W hM);refine jk 0 hM (hO.out) ?_;refine qj ?_;refine Qp 1 hM (hG.out) ?_;refine qj ?_;refine rD 2 ?_;refine jk 3 hM (hY.out) ?_;refine qj ?_;refine jk 4 hM (hZ.out) ?_;refine qj ?_;refine dC 5 (fun K' hK'=> ?_);go_wp2_with(first|(go_at_call 128;(with_reducible refine cx hM (Vc gd _ _ _ _ HK hx hy hz) ?_);clear hM;rintro k W1 ⟨hk1,hk2⟩ hM)|(go_at_call 129;(with_reducible refine cx hM (DS gd bg k _ (hide (zZ hM HG.out)) (hide (jQ hM hG.out)) hk1) ?_);clear hM;rintro u W1 ⟨hu,-⟩ hM)|(go_at_call 130;(with_reducible refine cx hM (DT gd bg k _ (hide (zZ hM HG.out)) (hide (jQ hM hG.out)) hk1) ?_);clear hM;rintro u W1 ⟨hu,-⟩ hM)|(go_at_call 131;(with_reducible refine cx hM (DU gd bg k _ (hide (zZ hM HG.out)) (hide (jQ hM hG.out)) hk2) ?_);clear hM;rintro u W1 ⟨hu,-⟩ hM));refine rK hK' hM ?_;clear hK' K';refine dC 6 (fun K' hK'=> ?_);go_wp2_with(first|(go_at_call 128;(with_reducible refine cx hM (Vc gd _ _ _ _ HK hx hy hz) ?_);clear hM;rintro k W1 ⟨hk1,hk2⟩ hM)|(go_at_call 129;(with_reducible refine cx hM (DS gd bg k _ (hide (zZ hM HG.out)) (hide (jQ hM hG.out)) hk1) ?_);clear hM;rintro u W1 ⟨hu,-⟩ hM)|(go_at_call 130;(with_reducible refine cx hM (DT gd bg k _ (hide (zZ hM HG.out)) (hide (jQ hM hG.out)) hk1) ?_);clear hM;rintro u W1 ⟨hu,-⟩ hM)|(go_at_call 131;(with_reducible refine cx hM (DU gd bg k _ (hide (zZ hM HG.out)) (hide (jQ hM hG.out)) hk2) ?_);clear hM;rintro u W1 ⟨hu,-⟩ hM));refine rK hK' hM ?_;clear hK' K';refine rD 7 ?_;refine qp qM ?_;go_wp2_with fail
  all_goals(go_ret;exact⟨_,rfl,⟨hu,trivial⟩,hM.below⟩)
def ZX(i f c n:Int):Prop:=(0≤i∧i<n)∧(f≠0→i+1<n)∧qz f∧qz c
theorem iG{i f c n j:Int}(h:ZX i f c n)(hj:j=i∨(f≠0∧j=i+1)):0≤j∧j<n:=by
 obtain⟨h1,h2,_⟩:=h;rcases hj with rfl|⟨h3,rfl⟩
 ·exact h1
 ·have:=h2 h3;omega
theorem Fq{i f c n:Int}(h:ZX i f c n):qz f:=h.2.2.1
theorem Fs{i f c n:Int}(h:ZX i f c n):qz c:=h.2.2.2
theorem Ft{i f c n:Int}(h:ZX i f c n)(hn:n≤16):0≤i∧i≤1000000:=by have:=h.1;omega
section
variable{ops:Array Oper}{Q:Exit→Act→World→Prop}{a:Act}{w W:World}{L:List qZ}{rest:List Oper}{o:Oper}
theorem UW{F:Fn}{xs ys:Array Value}{ty:TypeId}{x:Operand}(hM:qF w W L)(hg:o.guard=none)(ho:o.op= .box ty x)(hx:a.eval x= .func F xs ys)
 (h:∀g W',qF w W' ((g,[.func F xs ys],ty)::L)→wpList Tryz.prog ops Q rest (a.put o.dst (.pointer (some ⟨g,0,none⟩))) W'):wpList Tryz.prog ops Q (o::rest) a W:=
  wpList_plain hg fun _ hK=>by
   unfold Oper.wp execOp;simp only[ho,Instr.box,Sem.run_bind,Sem.run_pure,Result.andThen_ok,xY,hx];exact hK _ _ (h _ _ (kR hM _ ty))
end
theorem Aj(gd:Gd)(bg bo bz bsx:Nat)(F:FuncId)(y z ix fx kx:Int)(w:World)(hF:Fp F)(HG:Hid (Zz w gd))(HK:Hid (UU gd))(hG:Hid (rowAt w bg gd.cells))(hO:Hid (w.cell? ⟨bo,0,none⟩=some (.func (.func F) #[] #[.pointer (some ⟨bg,0,none⟩)])))(hZ:Hid (w.cell? ⟨bz,0,none⟩=some (Iv z)))(hsx:Hid (rowAt w bsx [Iv ix,Iv fx,Iv kx]))(HX:Hid (ZX ix fx kx gd.nx))(hy:0≤y∧y<gd.ny)(hz:0≤z∧z<gd.al.n):Calls Tryz.prog 126 #[Iv y,.pointer (some ⟨bsx,0,none⟩),.pointer (some ⟨bo,0,none⟩),.pointer (some ⟨bg,0,none⟩),.pointer (some ⟨bz,0,none⟩)] w (kY (fun _=>True) w):=by
 have hM:=qo w;have n1:=HK.out.nx.2;have n2:=HK.out.ny.2;have n3:=HK.out.al.2;go_enter Tryz.func126,Tryz.ntmps126;go_upto_region 1 with(first|((with_reducible refine bX ?_);refine UW hM rfl rfl rfl ?_;clear hM;intro g W hM)|(refine qe ?_;clear hM;intro g W hM));obtain⟨gq,rfl⟩:=uC hM;go_wp2_with(first|(go_at_call 124;(with_reducible refine cx hM (iF _ _ _ _ _ _ _ _ (Ft HX.out qg) (Fq HX.out) (Fs HX.out) (fun j W1 L1 hM1 hj=>Ai gd bg bo gq bz F j y z W1 hF (hide (zZ hM1 (zZ hM HG.out))) HK (hide (jQ hM1 (jQ hM hG.out))) (hide (hM1.old (hM.old hO.out))) (hide (hM1.old ((hM.cell .head 0).trans rfl))) (hide (hM1.old (hM.old hZ.out))) (iG HX.out hj) hy hz)) ?_);clear hM;rintro u W1 ⟨hu,-⟩ hM)|((with_reducible refine lX ?_);refine yL hM rfl (by first|exact rfl|(go_simp;done)) rfl (Zg rfl) hsx.out (bQ rfl) ?_)|refine zC ?_)
 all_goals(go_ret;exact⟨_,rfl,⟨hu,trivial⟩,hM.below⟩)
theorem Ak(gd:Gd)(bg bo bsx bsy:Nat)(F:FuncId)(z ix fx kx iy fy ky:Int)(w:World)(hF:Fp F)(HG:Hid (Zz w gd))(HK:Hid (UU gd))(hG:Hid (rowAt w bg gd.cells))(hO:Hid (w.cell? ⟨bo,0,none⟩=some (.func (.func F) #[] #[.pointer (some ⟨bg,0,none⟩)])))(hsx:Hid (rowAt w bsx [Iv ix,Iv fx,Iv kx]))(HX:Hid (ZX ix fx kx gd.nx))(hsy:Hid (rowAt w bsy [Iv iy,Iv fy,Iv ky]))(HY:Hid (ZX iy fy ky gd.ny))(hz:0≤z∧z<gd.al.n):Calls Tryz.prog 125 #[Iv z,.pointer (some ⟨bsy,0,none⟩),.pointer (some ⟨bsx,0,none⟩),.pointer (some ⟨bo,0,none⟩),.pointer (some ⟨bg,0,none⟩)] w (kY (fun _=>True) w):=by
 have hM:=qo w;have n1:=HK.out.nx.2;have n2:=HK.out.ny.2;have n3:=HK.out.al.2;go_enter Tryz.func125,Tryz.ntmps125;go_upto_region 1 with(first|((with_reducible refine bX ?_);refine UW hM rfl rfl rfl ?_;clear hM;intro g W hM)|(refine qe ?_;clear hM;intro g W hM));obtain⟨gq,rfl⟩:=uC hM;go_wp2_with(first|(go_at_call 124;(with_reducible refine cx hM (iE _ _ _ _ _ _ _ _ (Ft HY.out qg) (Fq HY.out) (Fs HY.out) (fun j W1 L1 hM1 hj=>Aj gd bg bo gq bsx F j z ix fx kx W1 hF (hide (zZ hM1 (zZ hM HG.out))) HK (hide (jQ hM1 (jQ hM hG.out))) (hide (hM1.old (hM.old hO.out))) (hide (hM1.old ((hM.cell .head 0).trans rfl))) (hide (jQ hM1 (jQ hM hsx.out))) HX (iG HY.out hj) hz)) ?_);clear hM;rintro u W1 ⟨hu,-⟩ hM)|((with_reducible refine lX ?_);refine yL hM rfl (by first|exact rfl|(go_simp;done)) rfl (Zg rfl) hsy.out (bQ rfl) ?_)|refine zC ?_)
 all_goals(go_ret;exact⟨_,rfl,⟨hu,trivial⟩,hM.below⟩)
theorem iH(gd:Gd)(bg bsx bsy bsz:Nat)(F:FuncId)(ix fx kx iy fy ky iz fz kz:Int)(w:World)(hF:Fp F)(HG:Hid (Zz w gd))(HK:Hid (UU gd))(hG:Hid (rowAt w bg gd.cells))(hsx:Hid (rowAt w bsx [Iv ix,Iv fx,Iv kx]))(HX:Hid (ZX ix fx kx gd.nx))(hsy:Hid (rowAt w bsy [Iv iy,Iv fy,Iv ky]))(HY:Hid (ZX iy fy ky gd.ny))(hsz:Hid (rowAt w bsz [Iv iz,Iv fz,Iv kz]))(HZ:Hid (ZX iz fz kz gd.al.n)):Calls Tryz.prog 123 #[.func (.func F) #[] #[.pointer (some ⟨bg,0,none⟩)],.pointer (some ⟨bsz,0,none⟩),.pointer (some ⟨bsy,0,none⟩),.pointer (some ⟨bsx,0,none⟩),.pointer (some ⟨bg,0,none⟩)] w (kY (fun _=>True) w):=by
 have hM:=qo w;have n1:=HK.out.nx.2;have n2:=HK.out.ny.2;have n3:=HK.out.al.2;go_enter Tryz.func123,Tryz.ntmps123;go_upto_region 1 with(first|((with_reducible refine bX ?_);refine UW hM rfl rfl rfl ?_;clear hM;intro g W hM)|(refine qe ?_;clear hM;intro g W hM));obtain⟨gq,rfl⟩:=uC hM;go_wp2_with(first|(go_at_call 124;(with_reducible refine cx hM (iD _ _ _ _ _ _ _ _ (Ft HZ.out qg) (Fq HZ.out) (Fs HZ.out) (fun j W1 L1 hM1 hj=>Ak gd bg gq bsx bsy F j ix fx kx iy fy ky W1 hF (hide (zZ hM1 (zZ hM HG.out))) HK (hide (jQ hM1 (jQ hM hG.out))) (hide (hM1.old ((hM.cell .head 0).trans rfl))) (hide (jQ hM1 (jQ hM hsx.out))) HX (hide (jQ hM1 (jQ hM hsy.out))) HY (iG HZ.out hj))) ?_);clear hM;rintro u W1 ⟨hu,-⟩ hM)|((with_reducible refine lX ?_);refine yL hM rfl (by first|exact rfl|(go_simp;done)) rfl (Zg rfl) hsz.out (bQ rfl) ?_)|refine zC ?_)
 all_goals(go_ret;exact⟨_,rfl,⟨hu,trivial⟩,hM.below⟩)
def ob(b:Bool)(x:qZ):List qZ:=if b then[x]else[]
def TZ(b:Bool)(g:Nat)(d:Value):Value:=if b then .pointer (some ⟨g,0,none⟩)else d
def Mc(b1 b2 b3:Bool)(j1 j2 j3:Nat):List Nat:=(if b1 then[]else[j1])++((if b2 then[]else[j2])++(if b3 then[]else[j3]))
def KG(k:Nat)(v dv:Nat→Value):Nat→Value:=fun m=>if m<k then v m else dv m
def fR(u:Nat→Value)(k:Nat)(v:Value):Nat→Value:=fun m=>if m=k then v else u m
theorem ld(k:Nat)(v dv:Nat→Value)(x:Value):fR (KG k v dv) k x=KG (k+1) (fR v k x) dv:=by
 funext m;unfold fR KG;by_cases h:m=k
 ·subst h;simp
 ·by_cases h2:m<k
  ·simp[h,h2,show m<k+1 by omega]
  ·simp[h,h2,show¬m<k+1 by omega]
section
variable{P:Program}{l:List Oper}{Q:Exit→Act→World→Prop}{w:World}{K L0:List qZ}
theorem dm{i:Nat}{o:Oper}{X:Act→World→Prop}{a:Act}{W:World}(ho:l[i]? =some o)(hg:o.guard=none)(h:∀K':Act→World→Prop,(∀a w,X a w→K' a w)→Oper.wp P o a W K' Q):wpOp P l.toArray Q i X a W:=
 wpOp_step (by simpa using ho) fun K' hK=>by
  rw[if_pos (by simp[Region.wanted,hg])];exact h K' hK
structure LK(l:List Oper)(ls:Nat→Bool→Bool→Bool→Array Bool)(ik:Nat→Nat)(j1 j2 j3:Nat):Prop where
 rd:∀k,k≤3→∀b1 b2 b3,¬(k=3∧b1=true∧b2=true∧b3=true)→Region.ready .any l.toArray (ls k b1 b2 b3)=(if k<3 then[ik k]else[])++Mc b1 b2 b3 j1 j2 j3
 sk:∀k,k<3→∀b1 b2 b3,(ls k b1 b2 b3).setIfInBounds (ik k) true=ls (k+1) b1 b2 b3
 s1:∀k,k≤3→∀b2 b3,(ls k false b2 b3).setIfInBounds j1 true=ls k true b2 b3
 s2:∀k,k≤3→∀b1 b3,(ls k b1 false b3).setIfInBounds j2 true=ls k b1 true b3
 s3:∀k,k≤3→∀b1 b2,(ls k b1 b2 false).setIfInBounds j3 true=ls k b1 b2 true
def wX(d1 d2 d3:Value)(dv:Nat→Value)(w:World)(L0:List qZ)(A:Value→Value→Value→(Nat→Value)→Act)(C:Nat→Value→Prop)(cs:List Value)(ty:TypeId)(k:Nat)(b1 b2 b3:Bool)(a:Act)(W:World):Prop:=
 ∃(g1 g2 g3:Nat) (v:Nat→Value),(∀m,m<k→C m (v m))∧a=A (TZ b1 g1 d1) (TZ b2 g2 d2) (TZ b3 g3 d3) (KG k v dv)∧qF w W (ob b1 (g1,cs,ty)++(ob b2 (g2,cs,ty)++(ob b3 (g3,cs,ty)++L0)))
theorem AG{d1 d2 d3:Value}{dv:Nat→Value}{A:Value→Value→Value→(Nat→Value)→Act}{ls:Nat→Bool→Bool→Bool→Array Bool}{ik:Nat→Nat}{j1 j2 j3:Nat}{ok:Nat→Oper}{p1 p2 p3:Oper}{C:Nat→Value→Prop}{cs:List Value}{ty:TypeId}{z:Value}{F:Nat}
 (hO:LK l ls ik j1 j2 j3) (hok:∀k,k<3→l[ik k]? =some (ok k)∧(ok k).guard=none) (h1:l[j1]? =some p1∧p1.guard=none∧p1.op= .alloc ty) (h2:l[j2]? =some p2∧p2.guard=none∧p2.op= .alloc ty) (h3:l[j3]? =some p3∧p3.guard=none∧p3.op= .alloc ty)
 (hz:∀w,(zeroValue ty).run P w= .ok z w) (hzc:z.cells=cs.toArray) (hK:∀b∈K,b∈L0)
 (pk:∀k,k<3→∀x y q u v,(A x y q u).put (ok k).dst v=A x y q (fR u k v)) (q1:∀x y q u v,(A x y q u).put p1.dst v=A v y q u) (q2:∀x y q u v,(A x y q u).put p2.dst v=A x v q u) (q3:∀x y q u v,(A x y q u).put p3.dst v=A x y v u)
 (hc:∀k,k<3→∀x y q u W L (K':Act→World→Prop),qF w W L→(∀v W',C k v→qF w W' L→K' ((A x y q u).put (ok k).dst v) W')→Oper.wp P (ok k) (A x y q u) W K' Q)
 (hend:∀a W,wX d1 d2 d3 dv w L0 A C cs ty 3 true true true a W→wpAnyH P .any l.toArray Q (Held w K) F (ls 3 true true true) a W):
 ∀n k b1 b2 b3,k≤3→k+b1.toNat+b2.toNat+b3.toNat+n=6→∀a W,wX d1 d2 d3 dv w L0 A C cs ty k b1 b2 b3 a W→wpAnyH P .any l.toArray Q (Held w K) (F+n) (ls k b1 b2 b3) a W:=by
 intro n
 induction n with
 |zero=>
  intro k b1 b2 b3 hk hn a W hS;have:k=3∧b1=true∧b2=true∧b3=true:=by revert hn;cases b1<;>cases b2<;>cases b3<;>simp<;>omega
  obtain⟨rfl,rfl,rfl,rfl⟩:=this;exact hend a W hS
 |succ n ih=>
  intro k b1 b2 b3 hk hn a W hS;have hne:¬(k=3∧b1=true∧b2=true∧b3=true):=by rintro⟨rfl,rfl,rfl,rfl⟩;simp at hn
  have hin:∀{b:qZ} {L:List qZ},b∈L0→b∈L++L0:=fun h=>List.mem_append_right _ h
  obtain⟨g1,g2,g3,v,hC,rfl,hM⟩:=hS;have hrd:=hO.rd k hk b1 b2 b3 hne;refine wpAnyH_all (w:=W) hrd ?_ ?_
  ·intro he;rw[List.append_eq_nil_iff]at he;obtain⟨e1,e2⟩:=he;apply hne;unfold Mc at e2;revert e1 e2;cases b1<;>cases b2<;>cases b3<;>simp<;>omega
  ·have hH:∀{k':Nat} {c1 c2 c3:Bool} {a':Act} {W':World},wX d1 d2 d3 dv w L0 A C cs ty k' c1 c2 c3 a' W'→Held w K W':=fun⟨g1,g2,g3,v,_,_,hM'⟩=>jh hM' fun b hb=>List.mem_append_right _ (List.mem_append_right _ (List.mem_append_right _ (hK b hb)))
   intro i hi;rcases List.mem_append.1 hi with hi|hi
   ·by_cases hk3:k<3
    ·rw[if_pos hk3]at hi;obtain rfl:=List.mem_singleton.1 hi;refine dm (hok k hk3).1 (hok k hk3).2 fun K' hK'=> ?_
     refine hc k hk3 _ _ _ _ W _ K' hM fun x W' hx hM'=>hK' _ _ ?_
     rw[pk k hk3,ld,hO.sk k hk3]
     have hS':wX d1 d2 d3 dv w L0 A C cs ty (k+1) b1 b2 b3 (A (TZ b1 g1 d1) (TZ b2 g2 d2) (TZ b3 g3 d3) (KG (k+1) (fR v k x) dv)) W':=⟨g1,g2,g3,_,fun m hm=>by
      unfold fR;by_cases h:m=k
      ·subst h;rw[if_pos rfl];exact hx
      ·rw[if_neg h];exact hC m qg,rfl,hM'⟩
     exact⟨hH hS',ih _ _ _ _ qg qg _ _ hS'⟩
    ·rw[if_neg hk3]at hi;cases hi
   ·unfold Mc at hi;rcases List.mem_append.1 hi with hi|hi
    ·cases b1
     ·obtain rfl:=List.mem_singleton.1 hi;refine dm h1.1 h1.2.1 fun K' hK'=>vS hM h1.2.2 hz hzc fun g W' hM'=>hK' _ _ ?_
      rw[q1,hO.s1 k hk];have hS':wX d1 d2 d3 dv w L0 A C cs ty k true b2 b3 (A (.pointer (some ⟨g,0,none⟩)) (TZ b2 g2 d2) (TZ b3 g3 d3) (KG k v dv)) W':=⟨g,g2,g3,v,hC,rfl,hM'⟩;exact⟨hH hS',ih _ _ _ _ hk (by simp at hn⊢;omega) _ _ hS'⟩
     ·cases hi
    ·rcases List.mem_append.1 hi with hi|hi
     ·cases b2
      ·obtain rfl:=List.mem_singleton.1 hi;refine dm h2.1 h2.2.1 fun K' hK'=>vS hM h2.2.2 hz hzc fun g W' hM'=>hK' _ _ ?_
       rw[q2,hO.s2 k hk]
       have hS':wX d1 d2 d3 dv w L0 A C cs ty k b1 true b3 (A (TZ b1 g1 d1) (.pointer (some ⟨g,0,none⟩)) (TZ b3 g3 d3) (KG k v dv)) W':=⟨g1,g,g3,v,hC,rfl,qW hM' (by
        show((g,cs,ty)::(ob b1 (g1,cs,ty)++(ob b3 (g3,cs,ty)++L0))).Perm (ob b1 (g1,cs,ty)++((g,cs,ty)::(ob b3 (g3,cs,ty)++L0)))
        exact List.perm_middle.symm)⟩
       exact⟨hH hS',ih _ _ _ _ hk (by simp at hn⊢;omega) _ _ hS'⟩
      ·cases hi
     ·cases b3
      ·obtain rfl:=List.mem_singleton.1 hi;refine dm h3.1 h3.2.1 fun K' hK'=>vS hM h3.2.2 hz hzc fun g W' hM'=>hK' _ _ ?_
       rw[q3,hO.s3 k hk]
       have hS':wX d1 d2 d3 dv w L0 A C cs ty k b1 b2 true (A (TZ b1 g1 d1) (TZ b2 g2 d2) (.pointer (some ⟨g,0,none⟩)) (KG k v dv)) W':=⟨g1,g2,g,v,hC,rfl,qW hM' (by
        show((g,cs,ty)::(ob b1 (g1,cs,ty)++(ob b2 (g2,cs,ty)++L0))).Perm (ob b1 (g1,cs,ty)++(ob b2 (g2,cs,ty)++((g,cs,ty)::L0)))
        rw[←List.append_assoc,←List.append_assoc]
        exact List.perm_middle.symm)⟩
       exact⟨hH hS',ih _ _ _ _ hk (by simp at hn⊢;omega) _ _ hS'⟩
      ·cases hi
theorem Zj(a:Act)(d:Tmp)(x y:Value):(a.put (some d) x).put (some d) y=a.put (some d) y:=by
 simp[Act.put]
theorem ZZ(a:Act){d e:Tmp}(v u:Value)(h:d≠e):(a.put (some d) v).put (some e) u=(a.put (some e) u).put (some d) v:=
 Act.put_comm a v u fun x hx hy=>h (by injection hx with hx;injection hy with hy;rw[hx,hy])
def bV(a:Act)(e1 e2 e3 c0 c1 c2:Tmp)(x y q:Value)(u:Nat→Value):Act:=
 (((((a.put (some e1) x).put (some e2) y).put (some e3) q).put (some c0) (u 0)).put (some c1) (u 1)).put (some c2) (u 2)
def KH(c:Bool)(i:Nat)(L:Array Bool):Array Bool:=if c then L.setIfInBounds i true else L
def FJ(L:Array Bool)(i0 i1 i2 j1 j2 j3:Nat)(k:Nat)(b1 b2 b3:Bool):Array Bool:=
 KH b3 j3 (KH b2 j2 (KH b1 j1 (KH (decide (2<k)) i2 (KH (decide (1<k)) i1 (KH (decide (0<k)) i0 L)))))
def FK(l:List Oper)(L:Array Bool)(i0 i1 i2 j1 j2 j3:Nat):Bool:=
 [0,1,2,3].all fun k=>[false,true].all fun b1=>[false,true].all fun b2=>[false,true].all fun b3=>(decide (k=3)&&b1&&b2&&b3)||
  Region.ready .any l.toArray (FJ L i0 i1 i2 j1 j2 j3 k b1 b2 b3)==(if k<3 then[if k=0 then i0 else if k=1 then i1 else i2]else[])++Mc b1 b2 b3 j1 j2 j3
theorem uu{c:Bool}{i j:Nat}(L:Array Bool)(h:i≠j):(KH c i L).setIfInBounds j true=KH c i (L.setIfInBounds j true):=by
 unfold KH;cases c<;>simp;exact Array.setIfInBounds_comm _ _ h
theorem Li{L:Array Bool}{i0 i1 i2 j1 j2 j3:Nat}(h:FK l L i0 i1 i2 j1 j2 j3=true)(hd:[i0,i1,i2,j1,j2,j3].Nodup):LK l (FJ L i0 i1 i2 j1 j2 j3) (fun k=>if k=0 then i0 else if k=1 then i1 else i2) j1 j2 j3:=by
 simp only[List.nodup_cons,List.mem_cons,List.not_mem_nil,or_false,not_or,not_false_eq_true,List.nodup_nil,and_true]at hd;obtain⟨⟨n01,n02,n03,n04,n05⟩,⟨n12,n13,n14,n15⟩,⟨n23,n24,n25⟩,⟨n34,n35⟩,Mm⟩:=hd;refine⟨fun k hk b1 b2 b3 hn=> ?_,fun k hk b1 b2 b3=> ?_,fun k hk b2 b3=> ?_,fun k hk b1 b3=> ?_,fun k hk b1 b2=> ?_⟩
 ·unfold FK at h;have h:=List.all_eq_true.1 h k (by simp only[List.mem_cons,List.not_mem_nil,or_false];omega);have h:=List.all_eq_true.1 h b1 (by cases b1<;>simp);have h:=List.all_eq_true.1 h b2 (by cases b2<;>simp);have h:=List.all_eq_true.1 h b3 (by cases b3<;>simp);rw[Bool.or_eq_true]at h;rcases h with h|h
  ·simp only[Bool.and_eq_true,decide_eq_true_eq]at h;exact absurd ⟨h.1.1.1,h.1.1.2,h.1.2,h.2⟩ hn
  ·exact eq_of_beq h
 ·unfold FJ;obtain rfl|rfl|rfl:k=0∨k=1∨k=2:=qg
  ·simp only[if_true];rw[uu _ (Ne.symm n05),uu _ (Ne.symm n04),uu _ (Ne.symm n03),uu _ (Ne.symm n02),uu _ (Ne.symm n01)];rfl
  ·simp only[show¬(1:Nat)=0 by omega,if_true,if_false];rw[uu _ (Ne.symm n15),uu _ (Ne.symm n14),uu _ (Ne.symm n13),uu _ (Ne.symm n12)];rfl
  ·simp only[show¬(2:Nat)=0 by omega,show¬(2:Nat)=1 by omega,if_false];rw[uu _ (Ne.symm n25),uu _ (Ne.symm n24),uu _ (Ne.symm n23)];rfl
 ·unfold FJ;rw[uu _ (Ne.symm n35),uu _ (Ne.symm n34)];rfl
 ·unfold FJ;rw[uu _ (Ne.symm Mm)];rfl
 ·rfl
set_option maxHeartbeats 2000000 in
theorem Lj{d1 d2 d3:Value}{dv:Nat→Value}{a:Act}{W:World}{listed:Array Bool}{o0 o1 o2 p1 p2 p3:Oper}{c0 c1 c2 e1 e2 e3:Tmp}{cs:List Value}{ty:TypeId}{z:Value}{F:Nat}(i0 i1 i2 j1 j2 j3:Nat)(C:Nat→Value→Prop)(hM:qF w W L0)
 (hz:∀w,(zeroValue ty).run P w= .ok z w) (hzc:z.cells=cs.toArray) (hK:∀b∈K,b∈L0)
 (k0:l[i0]? =some o0∧o0.guard=none∧o0.dst=some c0) (k1:l[i1]? =some o1∧o1.guard=none∧o1.dst=some c1) (k2:l[i2]? =some o2∧o2.guard=none∧o2.dst=some c2)
 (h1:l[j1]? =some p1∧p1.guard=none∧p1.dst=some e1∧p1.op= .alloc ty) (h2:l[j2]? =some p2∧p2.guard=none∧p2.dst=some e2∧p2.op= .alloc ty) (h3:l[j3]? =some p3∧p3.guard=none∧p3.dst=some e3∧p3.op= .alloc ty)
 (hch:FK l listed i0 i1 i2 j1 j2 j3=true) (hd:[i0,i1,i2,j1,j2,j3].Nodup) (he:[e1,e2,e3,c0,c1,c2].Nodup) (ha:bV a e1 e2 e3 c0 c1 c2 d1 d2 d3 dv=a)
 (hc0:∀x y q u W L (K':Act→World→Prop),qF w W L→(∀v W',C 0 v→qF w W' L→K' ((bV a e1 e2 e3 c0 c1 c2 x y q u).put (some c0) v) W')→Oper.wp P o0 (bV a e1 e2 e3 c0 c1 c2 x y q u) W K' Q)
 (hc1:∀x y q u W L (K':Act→World→Prop),qF w W L→(∀v W',C 1 v→qF w W' L→K' ((bV a e1 e2 e3 c0 c1 c2 x y q u).put (some c1) v) W')→Oper.wp P o1 (bV a e1 e2 e3 c0 c1 c2 x y q u) W K' Q)
 (hc2:∀x y q u W L (K':Act→World→Prop),qF w W L→(∀v W',C 2 v→qF w W' L→K' ((bV a e1 e2 e3 c0 c1 c2 x y q u).put (some c2) v) W')→Oper.wp P o2 (bV a e1 e2 e3 c0 c1 c2 x y q u) W K' Q)
 (hend:∀(g1 g2 g3:Nat) (v0 v1 v2:Value) W,C 0 v0→C 1 v1→C 2 v2→qF w W ((g1,cs,ty)::(g2,cs,ty)::(g3,cs,ty)::L0)→
   wpAnyH P .any l.toArray Q (Held w K) F ((((((listed.setIfInBounds i0 true).setIfInBounds i1 true).setIfInBounds i2 true).setIfInBounds j1 true).setIfInBounds j2 true).setIfInBounds j3 true)
    ((((((a.put (some e1) (.pointer (some ⟨g1,0,none⟩))).put (some e2) (.pointer (some ⟨g2,0,none⟩))).put (some e3) (.pointer (some ⟨g3,0,none⟩))).put (some c0) v0).put (some c1) v1).put (some c2) v2) W):
 wpAnyH P .any l.toArray Q (Held w K) (F+6) listed a W:=by
 simp only[List.nodup_cons,List.mem_cons,List.not_mem_nil,or_false,not_or,not_false_eq_true,List.nodup_nil,and_true]at he;obtain⟨⟨n01,n02,n03,n04,n05⟩,⟨n12,n13,n14,n15⟩,⟨n23,n24,n25⟩,⟨n34,n35⟩,Mm⟩:=he;refine AG (d1:=d1) (d2:=d2) (d3:=d3) (dv:=dv) (A:=bV a e1 e2 e3 c0 c1 c2) (ok:=fun k=>if k=0 then o0 else if k=1 then o1 else o2) (C:=C) (cs:=cs) (Li hch hd) ?_ ⟨h1.1,h1.2.1,h1.2.2.2⟩ ⟨h2.1,h2.2.1,h2.2.2.2⟩ ⟨h3.1,h3.2.1,h3.2.2.2⟩ hz hzc hK ?_ ?_ ?_ ?_ ?_ ?_ 6 0 false false false qg jL a W ⟨0,0,0,fun _=>undef,fun m hm=>absurd hm qg,?_,hM⟩
 ·intro k hk;obtain rfl|rfl|rfl:k=0∨k=1∨k=2:=qg
  ·exact⟨k0.1,k0.2.1⟩
  ·exact⟨k1.1,k1.2.1⟩
  ·exact⟨k2.1,k2.2.1⟩
 ·intro k hk x y q u v;obtain rfl|rfl|rfl:k=0∨k=1∨k=2:=qg
  ·show(bV a e1 e2 e3 c0 c1 c2 x y q u).put o0.dst v=_
   rw[k0.2.2];unfold bV;rw[ZZ _ _ _ (Ne.symm n35),ZZ _ _ _ (Ne.symm n34),Zj];rfl
  ·show(bV a e1 e2 e3 c0 c1 c2 x y q u).put o1.dst v=_
   rw[k1.2.2];unfold bV;rw[ZZ _ _ _ (Ne.symm Mm),Zj];rfl
  ·show(bV a e1 e2 e3 c0 c1 c2 x y q u).put o2.dst v=_
   rw[k2.2.2];unfold bV;rw[Zj];rfl
 ·intro x y q u v;rw[h1.2.2.1];unfold bV;rw[ZZ _ _ _ (Ne.symm n05),ZZ _ _ _ (Ne.symm n04),ZZ _ _ _ (Ne.symm n03),ZZ _ _ _ (Ne.symm n02),ZZ _ _ _ (Ne.symm n01),Zj]
 ·intro x y q u v;rw[h2.2.2.1];unfold bV;rw[ZZ _ _ _ (Ne.symm n15),ZZ _ _ _ (Ne.symm n14),ZZ _ _ _ (Ne.symm n13),ZZ _ _ _ (Ne.symm n12),Zj]
 ·intro x y q u v;rw[h3.2.2.1];unfold bV;rw[ZZ _ _ _ (Ne.symm n25),ZZ _ _ _ (Ne.symm n24),ZZ _ _ _ (Ne.symm n23),Zj]
 ·intro k hk x y q u W L K' hM h;obtain rfl|rfl|rfl:k=0∨k=1∨k=2:=qg
  ·exact hc0 x y q u W L K' hM fun v W' hv hW=>by have:=h v W' hv hW;rw[show(if 0=0 then o0 else if 0=1 then o1 else o2)=o0 from rfl,k0.2.2]at this;exact this
  ·exact hc1 x y q u W L K' hM fun v W' hv hW=>by have:=h v W' hv hW;rw[show(if 1=0 then o0 else if 1=1 then o1 else o2)=o1 from rfl,k1.2.2]at this;exact this
  ·exact hc2 x y q u W L K' hM fun v W' hv hW=>by have:=h v W' hv hW;rw[show(if 2=0 then o0 else if 2=1 then o1 else o2)=o2 from rfl,k2.2.2]at this;exact this
 ·rintro a' W' ⟨g1,g2,g3,v,hC,rfl,hM'⟩;have H:=hend g1 g2 g3 (v 0) (v 1) (v 2) W' (hC 0 qg) (hC 1 qg) (hC 2 qg) hM'
  have e1:bV a e1 e2 e3 c0 c1 c2 (TZ true g1 d1) (TZ true g2 d2) (TZ true g3 d3) (KG 3 v dv)=((((((a.put (some e1) (.pointer (some ⟨g1,0,none⟩))).put (some e2) (.pointer (some ⟨g2,0,none⟩))).put (some e3) (.pointer (some ⟨g3,0,none⟩))).put (some c0) (v 0)).put (some c1) (v 1)).put (some c2) (v 2)):=by
   unfold bV TZ KG;simp only[if_true,show 0<3 by omega,show 1<3 by omega,show 2<3 by omega]
  have e2:FJ listed i0 i1 i2 j1 j2 j3 3 true true true=((((((listed.setIfInBounds i0 true).setIfInBounds i1 true).setIfInBounds i2 true).setIfInBounds j1 true).setIfInBounds j2 true).setIfInBounds j3 true):=by
   unfold FJ KH;simp only[if_true,show 0<3 by omega,show 1<3 by omega,show 2<3 by omega,decide_true]
  rw[e1,e2];exact H
 ·exact ha.symm
end
theorem Fu:Fp 129:= .inl rfl
theorem Fv:Fp 130:= .inr (.inl rfl)
theorem Fw:Fp 131:= .inr (.inr rfl)
theorem iI{i f c n:Int}(h:(0≤i∧i<n)∧(f≠0→i+1<n)∧qz f∧qz c):Hid (ZX i f c n):=hide h
theorem Gi{w W:World}{L:List qZ}(hM:qF w W L){gd:Gd}(HG:Hid (Zz w gd)):Calls Tryz.prog 116 #[.agg gd.cells.toArray] W (bR (fun n:Int=>Iv n) (fun n=>qz n∧(n=0→UU gd)) W):=Gh gd W (hide (zZ hM HG.out))
set_option maxRecDepth 100000 in
set_option maxHeartbeats 100000000 in
theorem Fx(gd:Gd)(px py alt:Int)(w:World)(HG:Hid (Zz w gd)):Calls Tryz.prog 58 #[.agg gd.cells.toArray,.agg #[Iv px,Iv py],Iv alt] w (bR (fun r:Int×Int×Int×Int=> .tuple #[.agg #[Iv r.1,Iv r.2.1],Iv r.2.2.1,Iv r.2.2.2]) (fun r=>qz r.1∧qz r.2.1∧qz r.2.2.1∧qz r.2.2.2) w):=by
 have hM:=qo w;obtain⟨fa,FA⟩:=HG.out.al.2;replace FA:=hide FA;go_enter Tryz.func58,Tryz.ntmps58;go_upto_region 0 with fail;refine qj ?_;go_cut [3,4,6] (fun s3 s4 s6 wx=>∃gp gq gr:Nat,s3= .pointer (some ⟨gp,0,none⟩)∧s4= .pointer (some ⟨gq,0,none⟩)∧s6= .pointer (some ⟨gr,0,none⟩)∧qF w wx ([(gr,[Iv 0,Iv 0],145),(gq,[Iv px,Iv py],26),(gp,gd.cells,38)]))
 case first=>
  go_wp2_with(first|(refine qe ?_;clear hM;intro g W hM))
  all_goals
   go_meet;exact⟨_,_,_,rfl,rfl,rfl,hM⟩
 case rest=>
 clear hM;obtain⟨gp,gq,gr,rfl,rfl,rfl,hM⟩:=hcut;go_upto_region 6 with(first|(refine qe ?_;clear hM;intro g W hM)|(go_at_call 116;(with_reducible refine Bq hM (Gi hM HG) ?_ ?_)<;>(clear hM;first|(intro q W1 hq hz hz1 hM)|(intro W1 HK hM)))|(go_at_call 119;(with_reducible refine uD hM (Yo _ _ _) ?_ ?_)<;>(clear hM;intro W1 hb hM;clear hb))|(go_at_call 120;(with_reducible refine uD hM (xq _ _ _ _) ?_ ?_)<;>(clear hM;intro W1 hb hM;clear hb)))
 all_goals first
  |(refine' uq hM rfl rfl Tryz.isAgg145 Tryz.sizeOf145 rfl rfl rfl ?_ ?_ ?_;rotate_left 2;(·repeat constructor);(·rfl);(·exact zMGridH0))
  |skip
 all_goals
  refine qj ?_;go_cut [10,11,12] (fun s10 s11 s12 wx=>∃(gx gy gz:Nat) (ix fx kx iy fy ky iz fz kz:Int),s10= .pointer (some ⟨gx,0,none⟩)∧s11= .pointer (some ⟨gy,0,none⟩)∧s12= .pointer (some ⟨gz,0,none⟩)∧Hid (ZX ix fx kx gd.nx)∧Hid (ZX iy fy ky gd.ny)∧Hid (ZX iz fz kz gd.al.n)∧qF w wx [(gx,[Iv ix,Iv fx,Iv kx],207),(gy,[Iv iy,Iv fy,Iv ky],207),(gz,[Iv iz,Iv fz,Iv kz],207),(gr,[Iv 0,Iv 0],145),(gq,[Iv px,Iv py],26),(gp,[Iv gd.cx,Iv gd.cy,Iv gd.ce,Iv gd.nx,Iv gd.ny,.slice gd.al.S gd.al.n gd.al.c,.slice gd.wi.S gd.wi.n gd.wi.c,.slice gd.dv.S gd.dv.n gd.dv.c,Iv gd.er],38)])
  case first=>
   refine qA [(gq,[Iv px,Iv py],26),(gp,[Iv gd.cx,Iv gd.cy,Iv gd.ce,Iv gd.nx,Iv gd.ny,.slice gd.al.S gd.al.n gd.al.c,.slice gd.wi.S gd.wi.n gd.wi.c,.slice gd.dv.S gd.dv.n gd.dv.c,Iv gd.er],38)] hM qM ?_;(clear hM;intro W hM);refine qj ?_;refine rD 0 ?_;refine rD 1 ?_;refine rD 2 ?_;refine rD 3 ?_;refine rD 4 ?_;refine rD 5 ?_;refine rD 6 ?_;refine rD 7 ?_;refine rD 8 ?_;refine rD 10 ?_;refine rD 11 ?_;refine rD 12 ?_;refine rD 13 ?_;refine rD 14 ?_;refine rD 15 ?_;refine rD 16 ?_;refine rD 17 ?_;refine rD 18 ?_;refine rD 20 ?_;refine rD 21 ?_;refine rD 22 ?_;refine Lj (d1:=_) (d2:=_) (d3:=_) (dv:=fun m=>if m=0 then _ else if m=1 then _ else _) (cs:=[Iv 0,Iv 0,Iv 0]) (ty:=207) 9 19 23 24 25 26 (fun k v=>∃i f c,v= .agg #[Iv i,Iv f,Iv c]∧Hid (ZX i f c (match k with|0=>gd.nx|1=>gd.ny|_=>(gd.al.n:Int)))) hM (Sv rfl) rfl ((show Ks [(gq,[Iv px,Iv py],26),(gp,[Iv gd.cx,Iv gd.cy,Iv gd.ce,Iv gd.nx,Iv gd.ny,.slice gd.al.S gd.al.n gd.al.c,.slice gd.wi.S gd.wi.n gd.wi.c,.slice gd.dv.S gd.dv.n gd.dv.c,Iv gd.er],38)] _ by((repeat constructor)<;>fail)).mem) ⟨rfl,rfl,rfl⟩ ⟨rfl,rfl,rfl⟩ ⟨rfl,rfl,rfl⟩ ⟨rfl,rfl,rfl,rfl⟩ ⟨rfl,rfl,rfl,rfl⟩ ⟨rfl,rfl,rfl,rfl⟩ qM qG qG (by rfl) ?_ ?_ ?_ ?_
   ·intro x y q u W L K' hM hh;unfold bV;unfold bV at hh
    try simp only[pS,pN,sA,sB,sC]at hh⊢
    go_wp2_with(first|(go_at_call 121;(with_reducible refine cx hM (Yp gd.cx gd.ce gd.nx _ _ HK.out.cx HK.out.ce HK.out.nx) ?_);clear hM;rintro⟨ix,fx,kx⟩ W1 hsp hM;have HX:=iI hsp;clear hsp;try dsimp only));exact hh _ _ ⟨_,_,_,rfl,HX⟩ hM
   ·intro x y q u W L K' hM hh;unfold bV;unfold bV at hh
    try simp only[pS,pN,sA,sB,sC]at hh⊢
    go_wp2_with(first|(go_at_call 121;(with_reducible refine cx hM (Yp gd.cy gd.ce gd.ny _ _ HK.out.cy HK.out.ce HK.out.ny) ?_);clear hM;rintro⟨iy,fy,ky⟩ W1 hsp hM;have HY:=iI hsp;clear hsp;try dsimp only));exact hh _ _ ⟨_,_,_,rfl,HY⟩ hM
   ·intro x y q u W L K' hM hh;unfold bV;unfold bV at hh
    try simp only[pS,pN,sA,sB,sC]at hh⊢
    go_wp2_with(first|(go_at_call 122;(with_reducible refine cx hM (UV _ _ _ fa _ _ HK.out.al (hide (zW hM FA.out))) ?_);clear hM;rintro⟨iz,fz,kz⟩ W1 hsp hM;have HZ:=iI hsp;clear hsp;try dsimp only));exact hh _ _ ⟨_,_,_,rfl,HZ⟩ hM
   ·rintro gx gy gz v0 v1 v2 W ⟨ix,fx,kx,rfl,HX⟩ ⟨iy,fy,ky,rfl,HY⟩ ⟨iz,fz,kz,rfl,HZ⟩ hM;refine qj ?_;refine dC 27 (fun K' hK'=> ?_);refine oS hM ?_;clear hM;intro W hM;refine rK hK' hM ?_;clear hK' K';refine dC 28 (fun K' hK'=> ?_);refine oS hM ?_;clear hM;intro W hM;refine rK hK' hM ?_;clear hK' K';refine dC 29 (fun K' hK'=> ?_);refine oS hM ?_;clear hM;intro W hM;refine rK hK' hM ?_;clear hK' K';refine qp qM ?_;go_wp2_with fail;go_meet;exact⟨_,_,_,_,_,_,_,_,_,_,_,_,rfl,rfl,rfl,HX,HY,HZ,hM⟩
  case rest=>
  clear hM;obtain⟨gx,gy,gz,ix,fx,kx,iy,fy,ky,iz,fz,kz,rfl,rfl,rfl,HX,HY,HZ,hM⟩:=hcut;go_upto_region 9 with(first|(refine qe ?_;clear hM;intro g W hM)|(go_at_call 123;(with_reducible refine cx hM (iH gd gp gx gy gz _ ix fx kx iy fy ky iz fz kz _ (by first|exact Fu|exact Fv|exact Fw) (hide (zZ hM HG.out)) HK (hide (yY hM (by((repeat constructor)<;>fail)))) (hide (yY hM (by((repeat constructor)<;>fail)))) HX (hide (yY hM (by((repeat constructor)<;>fail)))) HY (hide (yY hM (by((repeat constructor)<;>fail)))) HZ) ?_);clear hM;rintro u W1 ⟨hu,-⟩ hM));refine qj ?_;refine qA [(gz,[Iv iz,Iv fz,Iv kz],207),(gy,[Iv iy,Iv fy,Iv ky],207),(gx,[Iv ix,Iv fx,Iv kx],207),(gq,[Iv px,Iv py],26),(gp,[Iv gd.cx,Iv gd.cy,Iv gd.ce,Iv gd.nx,Iv gd.ny,.slice gd.al.S gd.al.n gd.al.c,.slice gd.wi.S gd.wi.n gd.wi.c,.slice gd.dv.S gd.dv.n gd.dv.c,Iv gd.er],38)] hM qM ?_;(clear hM;intro W hM);refine rD 1 ?_;refine rD 2 ?_;refine dT 0 3 (fun K' hK'=> ?_) (fun K' hK'=> ?_)
  ·
   first|refine oL hM ?_|refine oM hM ?_
   refine rK hK' hM ?_;clear hK' K';refine dC 3 (fun K' hK'=> ?_);go_wp2_with(first|(go_at_call 123;(with_reducible refine cx hM (iH gd gp gx gy gz _ ix fx kx iy fy ky iz fz kz _ (by first|exact Fu|exact Fv|exact Fw) (hide (zZ hM HG.out)) HK (hide (yY hM (by((repeat constructor)<;>fail)))) (hide (yY hM (by((repeat constructor)<;>fail)))) HX (hide (yY hM (by((repeat constructor)<;>fail)))) HY (hide (yY hM (by((repeat constructor)<;>fail)))) HZ) ?_);clear hM;rintro u W1 ⟨hu,-⟩ hM));refine rK hK' hM ?_;clear hK' K';refine dC 4 (fun K' hK'=> ?_);refine oS hM ?_;clear hM;intro W hM;refine rK hK' hM ?_;clear hK' K';refine rD 5 ?_;refine rD 6 ?_;refine qp qM ?_;go_wp2_with fail
   all_goals(refine' uq hM rfl rfl Tryz.isAgg145 Tryz.sizeOf145 rfl rfl rfl ?_ ?_ ?_;rotate_left 2;(·repeat constructor);(·rfl);(·exact zMGridH0))
  ·
   go_wp2_with(first|(go_at_call 123;(with_reducible refine cx hM (iH gd gp gx gy gz _ ix fx kx iy fy ky iz fz kz _ (by first|exact Fu|exact Fv|exact Fw) (hide (zZ hM HG.out)) HK (hide (yY hM (by((repeat constructor)<;>fail)))) (hide (yY hM (by((repeat constructor)<;>fail)))) HX (hide (yY hM (by((repeat constructor)<;>fail)))) HY (hide (yY hM (by((repeat constructor)<;>fail)))) HZ) ?_);clear hM;rintro u W1 ⟨hu,-⟩ hM));refine rK hK' hM ?_;clear hK' K';refine dC 0 (fun K' hK'=> ?_)
   first|refine oL hM ?_|refine oM hM ?_
   refine rK hK' hM ?_;clear hK' K';refine dC 4 (fun K' hK'=> ?_);refine oS hM ?_;clear hM;intro W hM;refine rK hK' hM ?_;clear hK' K';refine rD 5 ?_;refine rD 6 ?_;refine qp qM ?_;go_wp2_with fail
   all_goals(refine' uq hM rfl rfl Tryz.isAgg145 Tryz.sizeOf145 rfl rfl rfl ?_ ?_ ?_;rotate_left 2;(·repeat constructor);(·rfl);(·exact zMGridH0))
inductive Ss:List qZ→List qZ→Nat→List Value→TypeId→List qZ→Prop
 |here {g:Nat} {cs:List Value} {t:TypeId} {R:List qZ}:Ss ((g,cs,t)::R) [] g cs t R
 |tail {e:qZ} {L pre:List qZ} {g:Nat} {cs:List Value} {t:TypeId} {R:List qZ}:Ss L pre g cs t R→Ss (e::L) (e::pre) g cs t R
theorem Ss.eq{L pre:List qZ}{g:Nat}{cs:List Value}{t:TypeId}{R:List qZ}(h:Ss L pre g cs t R):L=pre++(g,cs,t)::R:=by
 induction h with
 |here=>rfl
 |tail _ ih=>rw[ih];rfl
theorem Al{α:Type}{P:Program}{f:FuncId}{xs:Array Value}{w0 W:World}{L pre:List qZ}{g:Nat}{cs:List Value}{Cs:α→List Value}{C:α→Prop}{t:TypeId}{R:List qZ}{v:Value}{Q:Ending→World→Prop}
 (hM:qF w0 W L) (hc:∀R',qF w0 W ((g,cs,t)::R')→Calls P f xs W fun e w'=>e= .returned v∧∃b,C b∧qF w0 w' ((g,Cs b,t)::R'))
 (h:∀b W1,C b→qF w0 W1 (pre++(g,Cs b,t)::R)→Q (.returned v) W1) (hs:Ss L pre g cs t R:=by((repeat constructor)<;>fail)):Calls P f xs W Q:=by
 obtain rfl:=hs.eq;have p:∀(c:List Value),(pre++(g,c,t)::R).Perm ((g,c,t)::(pre++R)):=fun c=>List.perm_middle
 refine(hc (pre++R) (qW hM (p cs))).mono ?_;rintro e w' ⟨rfl,b,hC,hM'⟩;exact h b w' hC (qW hM' (p (Cs b)).symm)
theorem Am(a b c d n:Int){w0 W:World}{g:Nat}{R:List qZ}(hM:qF w0 W ((g,[Iv a,Iv b,Iv c,Iv d],217)::R))(h1:qz a)(h2:qz b)(hn:qz n):Calls Tryz.prog 215 #[.pointer (some ⟨g,0,none⟩),Iv n] W fun e w'=>e= .returned (.tuple #[])∧∃r:Int×Int,(qz r.1∧qz r.2)∧qF w0 w' ((g,[Iv r.1,Iv r.2,Iv c,Iv d],217)::R):=by
 go_enter Tryz.func215,Tryz.ntmps215;go_upto_region 0 with fail;refine qA [] hM qM ?_;(clear hM;intro W hM);refine rD 0 ?_;refine rD 1 ?_;refine rD 2 ?_;refine rD 3 ?_;refine rD 4 ?_;refine rD 6 ?_;refine rD 8 ?_;refine rD 9 ?_;refine rD 10 ?_;refine rD 12 ?_;refine dT 5 11 (fun K' hK'=> ?_) (fun K' hK'=> ?_)
 ·
  first|refine oL hM ?_|refine oM hM ?_
  refine rK hK' hM ?_;clear hK' K';refine rD 7 ?_;refine dC 11 (fun K' hK'=> ?_)
  first|refine oL hM ?_|refine oM hM ?_
  refine rK hK' hM ?_;clear hK' K';refine rD 13 ?_;refine rD 14 ?_;refine rD 15 ?_;refine dC 16 (fun K' hK'=> ?_);refine oS hM ?_;clear hM;intro W hM;refine rK hK' hM ?_;clear hK' K';refine rD 17 ?_;refine rD 18 ?_;refine dC 19 (fun K' hK'=> ?_);refine oS hM ?_;clear hM;intro W hM;refine rK hK' hM ?_;clear hK' K';refine qp qM ?_;go_wp2_with fail
  all_goals(refine bodyPost_end (v:= .tuple #[]) (by simp[results,Tryz.results215,go_sem]) rfl ?_;exact⟨rfl,(min a n,max b n),⟨vu h1 hn,ut h2 hn⟩,hM⟩)
 ·
  first|refine oL hM ?_|refine oM hM ?_
  refine rK hK' hM ?_;clear hK' K';refine rD 13 ?_;refine dC 5 (fun K' hK'=> ?_)
  first|refine oL hM ?_|refine oM hM ?_
  refine rK hK' hM ?_;clear hK' K';refine rD 7 ?_;refine rD 14 ?_;refine rD 15 ?_;refine dC 16 (fun K' hK'=> ?_);refine oS hM ?_;clear hM;intro W hM;refine rK hK' hM ?_;clear hK' K';refine rD 17 ?_;refine rD 18 ?_;refine dC 19 (fun K' hK'=> ?_);refine oS hM ?_;clear hM;intro W hM;refine rK hK' hM ?_;clear hK' K';refine qp qM ?_;go_wp2_with fail
  all_goals(refine bodyPost_end (v:= .tuple #[]) (by simp[results,Tryz.results215,go_sem]) rfl ?_;exact⟨rfl,(min a n,max b n),⟨vu h1 hn,ut h2 hn⟩,hM⟩)
theorem Ao(a b c d n:Int){w0 W:World}{g:Nat}{R:List qZ}(hM:qF w0 W ((g,[Iv a,Iv b,Iv c,Iv d],217)::R))(h1:qz c)(h2:qz d)(hn:qz n):Calls Tryz.prog 215 #[.pointer (some ⟨g,2,none⟩),Iv n] W fun e w'=>e= .returned (.tuple #[])∧∃r:Int×Int,(qz r.1∧qz r.2)∧qF w0 w' ((g,[Iv a,Iv b,Iv r.1,Iv r.2],217)::R):=by
 go_enter Tryz.func215,Tryz.ntmps215;go_upto_region 0 with fail;refine qA [] hM qM ?_;(clear hM;intro W hM);refine rD 0 ?_;refine rD 1 ?_;refine rD 2 ?_;refine rD 3 ?_;refine rD 4 ?_;refine rD 6 ?_;refine rD 8 ?_;refine rD 9 ?_;refine rD 10 ?_;refine rD 12 ?_;refine dT 5 11 (fun K' hK'=> ?_) (fun K' hK'=> ?_)
 ·
  first|refine oL hM ?_|refine oM hM ?_
  refine rK hK' hM ?_;clear hK' K';refine rD 7 ?_;refine dC 11 (fun K' hK'=> ?_)
  first|refine oL hM ?_|refine oM hM ?_
  refine rK hK' hM ?_;clear hK' K';refine rD 13 ?_;refine rD 14 ?_;refine rD 15 ?_;refine dC 16 (fun K' hK'=> ?_);refine oS hM ?_;clear hM;intro W hM;refine rK hK' hM ?_;clear hK' K';refine rD 17 ?_;refine rD 18 ?_;refine dC 19 (fun K' hK'=> ?_);refine oS hM ?_;clear hM;intro W hM;refine rK hK' hM ?_;clear hK' K';refine qp qM ?_;go_wp2_with fail
  all_goals(refine bodyPost_end (v:= .tuple #[]) (by simp[results,Tryz.results215,go_sem]) rfl ?_;exact⟨rfl,(min c n,max d n),⟨vu h1 hn,ut h2 hn⟩,hM⟩)
 ·
  first|refine oL hM ?_|refine oM hM ?_
  refine rK hK' hM ?_;clear hK' K';refine rD 13 ?_;refine dC 5 (fun K' hK'=> ?_)
  first|refine oL hM ?_|refine oM hM ?_
  refine rK hK' hM ?_;clear hK' K';refine rD 7 ?_;refine rD 14 ?_;refine rD 15 ?_;refine dC 16 (fun K' hK'=> ?_);refine oS hM ?_;clear hM;intro W hM;refine rK hK' hM ?_;clear hK' K';refine rD 17 ?_;refine rD 18 ?_;refine dC 19 (fun K' hK'=> ?_);refine oS hM ?_;clear hM;intro W hM;refine rK hK' hM ?_;clear hK' K';refine qp qM ?_;go_wp2_with fail
  all_goals(refine bodyPost_end (v:= .tuple #[]) (by simp[results,Tryz.results215,go_sem]) rfl ?_;exact⟨rfl,(min c n,max d n),⟨vu h1 hn,ut h2 hn⟩,hM⟩)
theorem Ap(a b n:Int){w0 W:World}{g:Nat}{R:List qZ}(hM:qF w0 W ((g,[Iv a,Iv b],72)::R))(h1:qz a)(h2:qz b)(hn:qz n):Calls Tryz.prog 215 #[.pointer (some ⟨g,0,none⟩),Iv n] W fun e w'=>e= .returned (.tuple #[])∧∃r:Int×Int,(qz r.1∧qz r.2)∧qF w0 w' ((g,[Iv r.1,Iv r.2],72)::R):=by
 go_enter Tryz.func215,Tryz.ntmps215;go_upto_region 0 with fail;refine qA [] hM qM ?_;(clear hM;intro W hM);refine rD 0 ?_;refine rD 1 ?_;refine rD 2 ?_;refine rD 3 ?_;refine rD 4 ?_;refine rD 6 ?_;refine rD 8 ?_;refine rD 9 ?_;refine rD 10 ?_;refine rD 12 ?_;refine dT 5 11 (fun K' hK'=> ?_) (fun K' hK'=> ?_)
 ·
  first|refine oL hM ?_|refine oM hM ?_
  refine rK hK' hM ?_;clear hK' K';refine rD 7 ?_;refine dC 11 (fun K' hK'=> ?_)
  first|refine oL hM ?_|refine oM hM ?_
  refine rK hK' hM ?_;clear hK' K';refine rD 13 ?_;refine rD 14 ?_;refine rD 15 ?_;refine dC 16 (fun K' hK'=> ?_);refine oS hM ?_;clear hM;intro W hM;refine rK hK' hM ?_;clear hK' K';refine rD 17 ?_;refine rD 18 ?_;refine dC 19 (fun K' hK'=> ?_);refine oS hM ?_;clear hM;intro W hM;refine rK hK' hM ?_;clear hK' K';refine qp qM ?_;go_wp2_with fail
  all_goals(refine bodyPost_end (v:= .tuple #[]) (by simp[results,Tryz.results215,go_sem]) rfl ?_;exact⟨rfl,(min a n,max b n),⟨vu h1 hn,ut h2 hn⟩,hM⟩)
 ·
  first|refine oL hM ?_|refine oM hM ?_
  refine rK hK' hM ?_;clear hK' K';refine rD 13 ?_;refine dC 5 (fun K' hK'=> ?_)
  first|refine oL hM ?_|refine oM hM ?_
  refine rK hK' hM ?_;clear hK' K';refine rD 7 ?_;refine rD 14 ?_;refine rD 15 ?_;refine dC 16 (fun K' hK'=> ?_);refine oS hM ?_;clear hM;intro W hM;refine rK hK' hM ?_;clear hK' K';refine rD 17 ?_;refine rD 18 ?_;refine dC 19 (fun K' hK'=> ?_);refine oS hM ?_;clear hM;intro W hM;refine rK hK' hM ?_;clear hK' K';refine qp qM ?_;go_wp2_with fail
  all_goals(refine bodyPost_end (v:= .tuple #[]) (by simp[results,Tryz.results215,go_sem]) rfl ?_;exact⟨rfl,(min a n,max b n),⟨vu h1 hn,ut h2 hn⟩,hM⟩)
end Go.Proofs.YtiegohjobhehcaaGreatDoor
