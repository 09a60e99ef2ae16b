/-
  Holding patterns and procedure turns drawn: the reference.
-/
import Derived.Test.YtcgpbnlhnafhjaaGreatDoorMHoldCr
import Derived.Test.YtcgpbnlhnafhjaaGreatDoorMDrFr
namespace Go.Proofs.YtcgpbnlhnafhjaaGreatDoor
open Go.RowKit
set_option linter.unusedVariables false
set_option linter.unusedSimpArgs false
theorem wG(n:Int):∀(l:List El) (d d':Dw),d.els=d'.els→d.gp=d'.gp→gK n d l=⟨(kR n d' l).els,d.px,d.py,(kR n d' l).gp⟩
 | [],d,d',h1,h2=>by unfold gK kR;rw[←h1,←h2]
 |x::r,d,d',h1,h2=>by
  unfold gK kR;split
  ·exact wG n r _ _ (by show d.els++_=d'.els++_;rw[h1,h2]) rfl
  ·exact wG n r _ _ h1 h2
theorem Zf(n:Int)(a b:Int):∀(l:List El) (d:Dw),chain d.px d.py l→(∀x,l.getLast? =some x→x.bx=a∧x.b_y=b)→(l=[]→d.px=a∧d.py=b)→(kR n d l).px=a∧(kR n d l).py=b
 | [],d,_,_,h=>h rfl
 |x::r,d,hc,hl,_=>by
  obtain⟨h1,h2,h3,h4⟩:=hc
  have hl2:∀y,r.getLast? =some y→y.bx=a∧y.b_y=b:=fun y hy=>hl y (by
   cases r with
   |nil=>cases hy
   |cons z r=>rw[List.getLast?_cons_cons];exact hy)
  unfold kR;split
  ·exact Zf n a b r _ h4 hl2 (fun e=>hl x (by rw[e];rfl))
  ·rename_i hL;have h5:=h3 DL;rw[h5.1,h5.2,h1,h2]at h4
   exact Zf n a b r _ h4 hl2 (fun e=>by
    have:=hl x (by rw[e];rfl);rw[h5.1,h5.2,h1,h2]at this
    exact this)
theorem fZ(n:Int){l:List El}{d:Dw}(h:chain d.px d.py l)(hl:∀x,l.getLast? =some x→x.bx=d.px∧x.b_y=d.py):gK n d l=kR n d l:=by
 rw[wG n l d d rfl rfl];obtain⟨h1,h2⟩:=Zf n d.px d.py l d h hl (fun _=>⟨rfl,rfl⟩);generalize kR n d l=e at*;rw[←h1,←h2]
theorem Ge(n:Int):∀(l k:List El) (d:Dw),gK n d (l++k)=gK n (gK n d l) k
 | [],k,d=>rfl
 |x::r,k,d=>by
  rw[List.cons_append]
  conv=>lhs;unfold gK
  conv=>rhs;arg 2;unfold gK
  exact Ge n r k _
theorem rf{fx fy crs tn dst rad:Int}:∀x,(vJ fx fy crs tn dst rad).2.getLast? =some x→x.bx=fx∧x.b_y=fy:=by
 intro x hx;unfold vJ at hx;split at hx
 ·cases hx
 split at hx
 ·cases hx
 dsimp only at hx;split at hx
 ·injection hx with hx;subst hx;exact⟨rfl,rfl⟩
 ·cases hx
theorem dX{w fx fy inb tn leg rad:Int}:∀x,(uJ w fx fy inb tn leg rad++tP fx fy inb tn leg rad).getLast? =some x→x.bx=fx∧x.b_y=fy:=by
 intro x hx;rw[List.getLast?_append]at hx;injection hx with hx;subst hx;exact⟨rfl,rfl⟩
theorem PI{e:zw}{l R:List zw}:∀b∈[e],b∈(e::l)++R:=fun b hb=>by
 rw[List.mem_singleton.1 hb];exact .head _
theorem lq(w fx fy inb tn leg rad:Int):(uJ w fx fy inb tn leg rad).length≤3:=by
 unfold uJ;dsimp only;split
 ·exact Nat.le_refl 3
 split
 ·exact Nat.le_refl 3
 ·exact Nat.zero_le _
set_option maxRecDepth 100000 in
set_option maxHeartbeats 8000000 in
theorem KK{w0 w:World}{gd:Nat}{rad:Int}{V:Value}{d:Dw}{B R:List zw}{m:Nat}(lx:En)(x:Tk)(hr:1≤rad)(hr8:rad≤8000000)(htn:lx.tn=1∨lx.tn=2)(hci:qK x.ci)(hcr:qK lx.crs)(hpx:Hid (d.px=x.ax))(hpy:Hid (d.py=x.ay))(hM:qU w0 w ((gd,uC V d,74)::(B++R)))(hO:Hid (Zv V d.els B m))(hm:m≤80000:=by omega):
 Calls Tryz.prog 22 #[.pointer (some ⟨gd,0,none⟩),.agg x.cX.toArray,.agg #[.int .u8 lx.ty,.string lx.fx,.string lx.ct,.int .u8 lx.tn,.bool lx.ov,Iv lx.crs,Iv lx.dst,Iv lx.rad,Iv lx.tht,Iv lx.lo,Iv lx.hi,Iv lx.spd,Iv lx.rnp],Iv rad] w fun e w'=>e= .returned (Iv (gM rad d lx x).1)∧∃V' B',Zv V' (gM rad d lx x).2.els B' (m+7)∧qU w0 w' ((gd,uC V' (gM rad d lx x).2,74)::(B'++R)):=by
 go_enter Tryz.func22,Tryz.ntmps22;go_upto_region 0 with fail;refine qu ?_;go_cut [6,5] (fun s6 s5 wx=>∃gl gx:Nat,s6= .pointer (some ⟨gl,0,none⟩)∧s5= .pointer (some ⟨gx,0,none⟩)∧qU w0 wx ((gl,[.int .u8 lx.ty,.string lx.fx,.string lx.ct,.int .u8 lx.tn,.bool lx.ov,Iv lx.crs,Iv lx.dst,Iv lx.rad,Iv lx.tht,Iv lx.lo,Iv lx.hi,Iv lx.spd,Iv lx.rnp],44)::(gx,x.cX,67)::((gd,uC V d,74)::(B++R))))
 case first=>
  go_wp2_with(first|(refine DU ?_;clear hM;intro g W hM))
  all_goals
   go_meet;exact⟨_,_,rfl,rfl,hM⟩
 case rest=>
 clear hM;obtain⟨gl,gx,rfl,rfl,hM⟩:=hcut;by_cases h17:lx.ty=17
 ·have k17:(lx.ty==17)=true:=by simpa using h17
  have HP0:=hide (show gM rad d lx x=((vJ x.ax x.ay lx.crs lx.tn lx.dst rad).1,kR x.n d (vJ x.ax x.ay lx.crs lx.tn lx.dst rad).2) by unfold gM;rw[if_pos h17])
  have rl:(vJ x.ax x.ay lx.crs lx.tn lx.dst rad).2.length≤5:=by
   by_cases h:(vJ x.ax x.ay lx.crs lx.tn lx.dst rad).1=0
   ·rw[KI h];exact Nat.le_refl _
   ·rw[Jz h];decide
  clear h17;go_wp2_with(first|refine qg ?_|(go_at_call 59;refine(PM x.ax x.ay lx.crs lx.tn lx.dst rad _).mono ?_;rintro e0 W1 ⟨Vr,Br,rfl,hOr,hMr⟩;replace hM:=yL hM hMr;clear hMr;replace hOr:=hide hOr)|(go_at_call 60;refine cP hM (fun hM'=>fV (vJ x.ax x.ay lx.crs lx.tn lx.dst rad).2 x hM' hO hOr DQ (WT _ _ _ _ _ _) (fun b hb=>List.mem_append_left _ (List.mem_append_left _ hb))) ?_;clear hM hO;intro d1 V1 B1 W1 hd1 hO1 hM;simp only[List.append_assoc,List.cons_append,List.nil_append]at hM))
  all_goals
   have e2:(gM rad d lx x).2=d1:=by
    rw[HP0.out,←hd1.out];by_cases h:(vJ x.ax x.ay lx.crs lx.tn lx.dst rad).1=0
    ·exact(fZ _ (by rw[hpx.out,hpy.out];exact dH h) (by rw[hpx.out,hpy.out];exact rf)).symm
    ·rw[Jz h];rfl
   (go_ret;exact⟨by rw[HP0.out];rfl,V1,B1,by rw[e2];exact jg hO1.out DL,by rw[e2];exact qD (qD (ZE hM))⟩)
 have k17:(lx.ty==17)=false:=by simpa using h17
 have EN:=fun W=>rQ x.ci lx.crs lx.tn htn hci hcr W
 by_cases hE:kB x.ax x.ay lx.crs lx.tn lx.dst rad=0;rotate_left 1
 ·have HP:=hide (show gM rad d lx x=(kB x.ax x.ay lx.crs lx.tn lx.dst rad,d) by unfold gM;rw[if_neg h17,if_pos hE]);obtain⟨E0,hE0⟩:∃E0,kB x.ax x.ay lx.crs lx.tn lx.dst rad=E0:=⟨_,rfl⟩;rw[hE0]at hE HP;have EB:=fun W=>wL (gW (bd x.ci lx.crs lx.tn)) x.ax x.ay lx.crs lx.tn lx.dst rad E0 hE0 hE W
  have h1:(E0 !=0)=true:=by simpa using hE
  clear h17 hE hE0;go_upto_region 5 with(first|refine qg ?_);refine qu ?_;refine qP [(gx,x.cX,67),(gl,[.int .u8 lx.ty,.string lx.fx,.string lx.ct,.int .u8 lx.tn,.bool lx.ov,Iv lx.crs,Iv lx.dst,Iv lx.rad,Iv lx.tht,Iv lx.lo,Iv lx.hi,Iv lx.spd,Iv lx.rnp],44)] hM DN ?_;(clear hM;intro W hM);refine rD 0 ?_;refine rD 1 ?_;refine rD 2 ?_;refine rD 3 ?_;refine rD 4 ?_;refine rD 5 ?_;refine rD 7 ?_;refine rD 8 ?_;refine rD 9 ?_;refine rD 10 ?_;refine rD 11 ?_;refine rD 12 ?_;refine rD 13 ?_;refine rD 14 ?_;refine rD 15 ?_;refine dC 6 (fun K' hK'=> ?_);go_wp2_with(first|refine DG (EN _) ?_|(refine qf (EB _) ?_;clear hM;intro W1 hM));refine rK hK' hM ?_;clear hK' K';refine dC 16 (fun K' hK'=> ?_);go_wp2_with(first|refine DG (EN _) ?_|(refine qf (EB _) ?_;clear hM;intro W1 hM));refine rK hK' hM ?_;clear hK' K';refine rD 17 ?_;refine rD 18 ?_;refine rD 19 ?_;refine rD 20 ?_;refine rD 21 ?_;refine qF DN ?_;go_wp2_with(first|refine qg ?_)
  all_goals
   (go_ret;exact⟨by rw[HP.out];rfl,V,B,by rw[HP.out];exact jg hO.out DL,by rw[HP.out];exact qD (qD hM)⟩)
 have HP:=hide (show gM rad d lx x=(0,kR x.n d (uJ (bd x.ci lx.crs lx.tn) x.ax x.ay lx.crs lx.tn lx.dst rad++tP x.ax x.ay lx.crs lx.tn lx.dst rad)) by unfold gM;rw[if_neg h17,if_neg (by rw[hE];simp)]);have EO:=fun W=>cq (bd x.ci lx.crs lx.tn) x.ax x.ay lx.crs lx.tn lx.dst rad hE W
 have PO:=fun W=>Gr x.ax x.ay lx.crs lx.tn lx.dst rad hE W
 have HE:=hide hE;clear h17 hE;go_upto_region 5 with(first|refine qg ?_);refine qu ?_;refine qP [(gx,x.cX,67),(gl,[.int .u8 lx.ty,.string lx.fx,.string lx.ct,.int .u8 lx.tn,.bool lx.ov,Iv lx.crs,Iv lx.dst,Iv lx.rad,Iv lx.tht,Iv lx.lo,Iv lx.hi,Iv lx.spd,Iv lx.rnp],44)] hM DN ?_;(clear hM;intro W hM);refine rD 0 ?_;refine rD 1 ?_;refine rD 2 ?_;refine rD 3 ?_;refine rD 4 ?_;refine rD 5 ?_;refine rD 7 ?_;refine rD 8 ?_;refine rD 9 ?_;refine rD 10 ?_;refine rD 11 ?_;refine rD 12 ?_;refine rD 13 ?_;refine rD 14 ?_;refine rD 15 ?_;refine dC 6 (fun K' hK'=> ?_);go_wp2_with(first|refine DG (EN _) ?_|(go_at_call 61;refine(EO _).mono ?_;rintro e0 W1 ⟨Ve,Be,rfl,hOe,hMe⟩;replace hM:=yL hM hMe;clear hMe));refine rK hK' hM ?_;clear hK' K';refine dC 16 (fun K' hK'=> ?_);go_wp2_with(first|refine DG (EN _) ?_|(go_at_call 61;refine(EO _).mono ?_;rintro e0 W1 ⟨Ve,Be,rfl,hOe,hMe⟩;replace hM:=yL hM hMe;clear hMe));refine rK hK' hM ?_;clear hK' K';refine rD 17 ?_;refine rD 18 ?_;refine rD 19 ?_;refine rD 20 ?_;refine rD 21 ?_;refine qF DN ?_;have hOe:=hide hOe;have el:=lq (bd x.ci lx.crs lx.tn) x.ax x.ay lx.crs lx.tn lx.dst rad;have pl:(tP x.ax x.ay lx.crs lx.tn lx.dst rad).length=4:=rfl;go_wp2_with(first|refine qg ?_|(go_at_call 60;refine cP hM (fun hM'=>fV (uJ (bd x.ci lx.crs lx.tn) x.ax x.ay lx.crs lx.tn lx.dst rad) x hM' hO hOe DQ (WS _ _ _ _ _ _ _) (fun b hb=>List.mem_append_left _ (List.mem_append_left _ hb))) ?_;clear hM hO;intro d1 V1 B1 W1 hd1 hO1 hM;simp only[List.append_assoc,List.cons_append,List.nil_append]at hM)|(go_at_call 63;refine(PO _).mono ?_;rintro e0 W1 ⟨gP,rfl,hMp⟩;replace hM:=yL hM hMp;clear hMp;simp only[List.append_assoc,List.cons_append,List.nil_append]at hM)|(go_at_call 60;refine cP hM (fun hM'=>fV (tP x.ax x.ay lx.crs lx.tn lx.dst rad) x hM' hO1 (hide (bL _ 4 rfl DQ DQ)) DQ (WR _ _ _ _ _ _) PI) ?_;clear hM hO1;intro d2 V2 B2 W1 hd2 hO2 hM;simp only[List.append_assoc,List.cons_append,List.nil_append]at hM))
 all_goals
  have e2:(gM rad d lx x).2=d2:=by
   rw[HP.out,←hd2.out,←hd1.out,←Ge];exact(fZ _ (by rw[hpx.out,hpy.out];exact dG _ HE.out) (by rw[hpx.out,hpy.out];exact dX)).symm
  (go_ret;exact⟨by rw[HP.out];rfl,V2,B2,by rw[e2];exact jg hO2.out DL,by rw[e2];exact qD (qD (ZE (qD hM)))⟩)
theorem Sd.sq{L pre:List zw}{g:Nat}{cs:List Value}{t:TypeId}{B R:List zw}(h:Sd L pre g cs t B R):Sq L pre g cs t B R:=by
 induction h with
 |here=>exact .here
 |tail _ ih=>exact .tail ih
theorem MK{f:FuncId}{xs:Array Value}{w0 W:World}{L pr:List zw}{gd gT:Nat}{cs cs':List Value}{V v:Value}{d d':Dw}{B R:List zw}{m:Nat}{Q:Ending→World→Prop}(hM:qU w0 W L)
 (hc:∀R',qU w0 W ((gd,uC V d,74)::(B++((gT,cs,67)::R')))→Calls Tryz.prog f xs W fun e w'=>e= .returned v∧∃V' B',Zv V' d'.els B' m∧qU w0 w' ((gd,uC V' d',74)::(B'++((gT,cs',67)::R'))))
 (h:∀V' B' W1,Hid (Zv V' d'.els B' m)→qU w0 W1 (pr++(gd,uC V' d',74)::(B'++((gT,cs',67)::R)))→Q (.returned v) W1) (hs:Sd L pr gd (uC V d) 74 B ((gT,cs,67)::R):=by((repeat constructor)<;>fail)):Calls Tryz.prog f xs W Q:=by
 have h1:=hs.eq;subst h1;have p:∀(V':Value) (d':Dw) (B':List zw) (c:List Value),(pr++(gd,uC V' d',74)::(B'++((gT,c,67)::R))).Perm ((gd,uC V' d',74)::(B'++((gT,c,67)::(pr++R)))):=fun V' d' B' c=>(tW pr _ B' _).trans (.cons _ (List.Perm.append_left _ List.perm_middle))
 refine(hc (pr++R) (zL hM (p V d B cs))).mono ?_;rintro e w' ⟨rfl,V',B',h3,h4⟩;exact h V' B' w' (hide h3) (zL h4 (p V' d' B' cs').symm)
theorem Dm{f:FuncId}{xs:Array Value}{w0 W:World}{L pr:List zw}{gd:Nat}{V v:Value}{d d':Dw}{B R:List zw}{m:Nat}{Q:Ending→World→Prop}(hM:qU w0 W L)
 (hc:∀R',qU w0 W ((gd,uC V d,74)::(B++R'))→Calls Tryz.prog f xs W fun e w'=>e= .returned v∧∃V' B',Zv V' d'.els B' m∧qU w0 w' ((gd,uC V' d',74)::(B'++R')))
 (h:∀V' B' W1,Hid (Zv V' d'.els B' m)→qU w0 W1 (pr++(gd,uC V' d',74)::(B'++R))→Q (.returned v) W1) (hs:Sd L pr gd (uC V d) 74 B R:=by((repeat constructor)<;>fail)):Calls Tryz.prog f xs W Q:=
 cP hM (hc _) (fun d1 V' B' W1 e ho hM'=>by
  have e:=e.out;subst e
  exact h V' B' W1 ho hM') hs.sq
set_option maxRecDepth 100000 in
set_option maxHeartbeats 8000000 in
theorem nU{w0 w:World}{gd:Nat}{rad:Int}{V:Value}{d:Dw}{B R:List zw}{m gT o:Nat}{pre post:List Value}(pa pb:ByteArray)(b0 o0 n0 cap:Nat)(act:Int)(lx ly:En)(x y:Tk)(jx jy:Nat)(t:Option (Dw×Tk))(ht:Hid (t=QU rad d lx ly x y))(hr:1≤rad)(hr8:rad≤8000000)(hx: -129600000≤x.co∧x.co≤259200000)(hy: -129600000≤y.ci∧y.ci≤259200000)
 (hyc:Hid (y.k=1→y.co=y.ci)) (hxl:x.k=1→x.len≤8000000) (hyl:y.k=1→y.len≤8000000) (hxn0:Hid (x.n=(jx:Int))) (hyn0:Hid (y.n=(jy:Int))) (hjx:jx<n0) (hjy:jy<n0) (hn60:n0≤60) (hatx:Hid (uz w0 b0 (o0+jx*20) lx)) (haty:Hid (uz w0 b0 (o0+jy*20) ly)) (hpre:Hid (pre.length=o))
 (hM:qU w0 w ((gd,uC V d,74)::(B++((gT,pre++mid y.cX post,67)::R)))) (hO:Hid (Zv V d.els B m)) (hm:m≤80000:=by omega):
 Calls Tryz.prog 23 #[.pointer (some ⟨gd,0,none⟩),.agg #[.string pa,.string pb,.slice (some ⟨b0,o0,none⟩) n0 cap,Iv act],.agg x.cX.toArray,.pointer (some ⟨gT,o,none⟩),Iv rad] w fun e w'=>e= .returned (.bool t.isSome)∧∃V' B',Zv V' ((t.map (·.1)).getD d).els B' (m+3)∧qU w0 w' ((gd,uC V' ((t.map (·.1)).getD d),74)::(B'++((gT,pre++mid ((t.map (·.2)).getD y).cells post,67)::R))):=by
 go_enter Tryz.func23,Tryz.ntmps23;go_upto_region 0 with fail;refine qu ?_;go_cut [7,6] (fun s7 s6 wx=>∃gx gp:Nat,s7= .pointer (some ⟨gx,0,none⟩)∧s6= .pointer (some ⟨gp,0,none⟩)∧qU w0 wx ((gx,x.cX,67)::(gp,[.string pa,.string pb,.slice (some ⟨b0,o0,none⟩) n0 cap,Iv act],24)::((gd,uC V d,74)::(B++((gT,pre++mid y.cX post,67)::R)))))
 case first=>
  go_wp2_with(first|(refine DU ?_;clear hM;intro g W hM))
  all_goals
   go_meet;exact⟨_,_,rfl,rfl,hM⟩
 case rest=>
 clear hM;obtain⟨gx,gp,rfl,rfl,hM⟩:=hcut;go_upto_region 1 with(first|(refine DU ?_;clear hM;intro g W hM));refine qu ?_;by_cases hno:x.k≠1∨y.k≠1∨x.len<1∨y.len<1∨¬(y.ax=x.bx∧y.ay=x.b_y)
 ·have hn:=hide (show t=none from ht.out.trans (WU hno))
  have hcs:(x.k !=1)=true∨((x.k !=1)=false∧(y.k !=1)=true)∨((x.k !=1)=false∧(y.k !=1)=false∧decide (x.len<1)=true)∨((x.k !=1)=false∧(y.k !=1)=false∧¬x.len<1∧decide (y.len<1)=true)∨((x.k !=1)=false∧(y.k !=1)=false∧¬x.len<1∧¬y.len<1∧¬(y.ax=x.bx∧y.ay=x.b_y)):=by
   by_cases z1:x.k=1
   ·by_cases z2:y.k=1
    ·by_cases z3:x.len<1
     ·exact .inr (.inr (.inl ⟨by simpa using z1,by simpa using z2,decide_eq_true z3⟩))
     ·by_cases z4:y.len<1
      ·exact .inr (.inr (.inr (.inl ⟨by simpa using z1,by simpa using z2,z3,decide_eq_true z4⟩)))
      ·refine .inr (.inr (.inr (.inr ⟨by simpa using z1,by simpa using z2,z3,z4,fun h=> ?_⟩)));rcases hno with h1|h1|h1|h1|h1
       ·exact h1 z1
       ·exact h1 z2
       ·exact z3 h1
       ·exact z4 h1
       ·exact h1 h
    ·exact .inr (.inl ⟨by simpa using z1,by simpa using z2⟩)
   ·exact .inl (by simpa using z1)
  clear hno ht;rcases hcs with z1|⟨z1,z2⟩|⟨z1,z2,z3⟩|⟨z1,z2,z3,z4⟩|⟨z1,z2,z3,z4,z5⟩
  iterate 4
   ·(
    refine qP [(gx,x.cX,67),(gT,pre++mid y.cX post,67)] hM DN ?_;(clear hM;intro W hM);refine rD 0 ?_;refine rD 1 ?_;refine rD 2 ?_;refine rD 3 ?_;refine rE 4 ?_;refine rE 5 ?_;refine rE 6 ?_
    first|refine eL 7 hM ?_ (hv:=cv hpre.out rfl)|refine eS 7 hM ?_
    refine qu ?_;refine rE 8 ?_;refine rD 9 ?_;refine rD 10 ?_;refine rE 11 ?_;refine rE 12 ?_;refine rE 13 ?_;refine rD 14 ?_;refine rD 15 ?_;refine rE 16 ?_;refine rE 17 ?_;refine rE 18 ?_
    first|refine eL 19 hM ?_ (hv:=uE hpre.out rfl)|refine eS 19 hM ?_
    refine qu ?_;refine rE 20 ?_;refine rD 21 ?_;refine rD 22 ?_;refine rE 23 ?_;refine rE 24 ?_;refine rE 25 ?_
    first|refine eM 26 hM ?_ (hC:=jK hpre.out (by((repeat constructor)<;>fail)))|refine eS 26 hM ?_
    refine qu ?_;refine rE 27 ?_;refine rE 28 ?_;refine rE 29 ?_;refine rD 30 ?_;refine qF DN ?_;go_wp2_with(first|(refine DU ?_;clear hM;intro g W hM))
    all_goals
     (go_ret;exact⟨by rw[hn.out];rfl,V,B,by rw[hn.out];exact jg hO.out DL,by rw[hn.out];exact qD (qD (hM))⟩)
    )
  ·(
   refine qP [(gx,x.cX,67),(gT,pre++mid y.cX post,67)] hM DN ?_;(clear hM;intro W hM);refine rD 0 ?_;refine rD 1 ?_;refine rD 2 ?_;refine rD 3 ?_;refine rE 4 ?_;refine rE 5 ?_;refine rE 6 ?_
   first|refine eL 7 hM ?_ (hv:=cv hpre.out rfl)|refine eS 7 hM ?_
   refine qu ?_;refine rE 8 ?_;refine rD 9 ?_;refine rD 10 ?_;refine rE 11 ?_;refine rE 12 ?_;refine rE 13 ?_;refine rD 14 ?_;refine rD 15 ?_;refine rE 16 ?_;refine rE 17 ?_;refine rE 18 ?_
   first|refine eL 19 hM ?_ (hv:=uE hpre.out rfl)|refine eS 19 hM ?_
   refine qu ?_;refine rE 20 ?_;refine rD 21 ?_;refine rD 22 ?_;refine rE 23 ?_;refine rE 24 ?_;refine rE 25 ?_
   first|refine eM 26 hM ?_ (hC:=jK hpre.out (by((repeat constructor)<;>fail)))|refine eS 26 hM ?_
   refine qu ?_;refine rE 27 ?_;refine rE 28 ?_
   first|refine eP 29 (v:= .bool true) hM ?_ (hv:=by(intro W0;go_simp;exact fun h1 h2=>z5 ⟨h1,h2⟩))|refine eS 29 hM ?_
   refine qu ?_;refine rD 30 ?_;refine qF DN ?_;go_wp2_with(first|(refine DU ?_;clear hM;intro g W hM))
   all_goals
    (go_ret;exact⟨by rw[hn.out];rfl,V,B,by rw[hn.out];exact jg hO.out DL,by rw[hn.out];exact qD (qD (hM))⟩)
   )
 have z1:(x.k !=1)=false:=by simp;omega
 have z2:(y.k !=1)=false:=by simp;omega
 have z3:¬x.len<1:=DL;have z4:¬y.len<1:=DL;have z5:y.ax=x.bx∧y.ay=x.b_y:=DL;have z6:=z5.1;have z7:=z5.2;have HNO:=hide hno;clear hno;refine qP [(gx,x.cX,67),(gT,pre++mid y.cX post,67)] hM DN ?_;(clear hM;intro W hM);refine rD 0 ?_;refine rD 1 ?_;refine rD 2 ?_;refine rD 3 ?_;refine rE 4 ?_;refine rE 5 ?_;refine rE 6 ?_
 first|refine eL 7 hM ?_ (hv:=cv hpre.out rfl)|refine eS 7 hM ?_
 refine qu ?_;refine rE 8 ?_;refine rD 9 ?_;refine rD 10 ?_;refine rE 11 ?_;refine rE 12 ?_;refine rE 13 ?_;refine rD 14 ?_;refine rD 15 ?_;refine rE 16 ?_;refine rE 17 ?_;refine rE 18 ?_
 first|refine eL 19 hM ?_ (hv:=uE hpre.out rfl)|refine eS 19 hM ?_
 refine qu ?_;refine rE 20 ?_;refine rD 21 ?_;refine rD 22 ?_;refine rE 23 ?_;refine rE 24 ?_;refine rE 25 ?_
 first|refine eM 26 hM ?_ (hC:=jK hpre.out (by((repeat constructor)<;>fail)))|refine eS 26 hM ?_
 refine qu ?_;refine rE 27 ?_;refine rE 28 ?_
 first|refine eP 29 (v:= .bool false) hM ?_ (hv:=by(intro W0;go_simp;(try rw[if_pos z6,if_pos z7])))|refine eS 29 hM ?_
 refine qu ?_;refine rD 30 ?_;refine qF DN ?_;clear z5 z6 z7;have z1':=hide (show x.k=1 by simpa using z1);have z2':=hide (show y.k=1 by simpa using z2);clear z1 z2;go_upto_region 3 with(first|(refine DU ?_;clear hM;intro g W hM));have hxn:=hxn0.out;go_upto_region 4 with(first|((with_reducible refine lX ?_);refine vQ hM rfl (by first|exact rfl|(go_simp;done)) rfl (JK rfl) (QJ hatx.out) (uT rfl) ?_)|(refine DU ?_;clear hM;intro g W hM));refine qu ?_;clear hxn;rcases hov:lx.ov with _|_
 ·have HT:=hide (ht.out.trans (WV HNO.out hov));rw[hov]at hM;clear HNO hov;by_cases hty:lx.ty=7∨lx.ty=8∨lx.ty=9∨lx.ty=10∨lx.ty=11∨lx.ty=12
  ·have hn:=hide (show t=none by rw[HT.out,if_pos hty]);clear HT ht
   have hcs:(lx.ty==9)=true∨((lx.ty==9)=false∧(lx.ty==7)=true)∨((lx.ty==9)=false∧(lx.ty==7)=false∧(lx.ty==8)=true)∨((lx.ty==9)=false∧(lx.ty==7)=false∧(lx.ty==8)=false∧(lx.ty==10)=true)∨((lx.ty==9)=false∧(lx.ty==7)=false∧(lx.ty==8)=false∧(lx.ty==10)=false∧(lx.ty==11)=true)∨((lx.ty==9)=false∧(lx.ty==7)=false∧(lx.ty==8)=false∧(lx.ty==10)=false∧(lx.ty==11)=false∧(lx.ty==12)=true):=by
    rcases hty with h|h|h|h|h|h<;>rw[h]<;>decide
   clear hty;rcases hcs with f9|⟨f9,f7⟩|⟨f9,f7,f8⟩|⟨f9,f7,f8,f10⟩|⟨f9,f7,f8,f10,f11⟩|⟨f9,f7,f8,f10,f11,f12⟩
   all_goals
    go_wp2_with(first|(refine DU ?_;clear hM;intro g W hM))
    all_goals
     (go_ret;exact⟨by rw[hn.out];rfl,V,B,by rw[hn.out];exact jg hO.out DL,by rw[hn.out];exact qD (qD (qD (hM)))⟩)
  ·have f9:(lx.ty==9)=false:=by simp;omega
   have f7:(lx.ty==7)=false:=by simp;omega
   have f8:(lx.ty==8)=false:=by simp;omega
   have f10:(lx.ty==10)=false:=by simp;omega
   have f11:(lx.ty==11)=false:=by simp;omega
   have f12:(lx.ty==12)=false:=by simp;omega
   obtain⟨t2,ht0⟩:∃t2,t2=nn rad d x y:=⟨_,rfl⟩;have e2:t=t2.map (fun d'=>(d',y)):=by rw[HT.out,if_neg hty,ht0]
   have ht2:=hide ht0;have he2:=hide e2;clear HT ht hty ht0 e2;go_upto_region 14 with(first|(refine DU ?_;clear hM;intro g W hM));refine qu ?_;refine qP [(gx,x.cX,67),(gT,pre++mid y.cX post,67)] hM DN ?_;(clear hM;intro W hM);refine rD 0 ?_;refine rD 1 ?_;refine rD 2 ?_;refine rD 3 ?_;refine dM 4 hM ?_ (hC:=ko hpre.out (by((repeat constructor)<;>fail)));refine qu ?_;refine rD 5 ?_;refine dC 6 (fun K' hK'=> ?_);go_wp2_with(first|(go_at_call 65;refine Dm hM (fun R' hM'=>lj x y t2 ht2 hr hr8 DL (hxl z1'.out) DL (hyl z2'.out) hM' hO) ?_;clear hM hO;intro V1 B1 W1 hO1 hM;simp only[List.cons_append,List.nil_append]at hM));refine rK hK' hM ?_;clear hK' K';refine rD 7 ?_;refine qF DN ?_;have e2:=he2.out;subst e2;clear he2;go_wp2_with(first|(refine DU ?_;clear hM;intro g W hM))
   all_goals
    (go_ret;exact⟨by cases t2<;>rfl,V1,B1,by cases t2<;>exact hO1.out,by cases t2<;>exact qD (qD (qD hM))⟩)
 ·have HT:=hide (ht.out.trans (nS HNO.out hov));rw[hov]at hM;clear HNO hov;by_cases h4:ly.ty=4
  ·have ht2:Hid (t=Yw rad d x y):=hide (by rw[HT.out,if_pos h4]);have k4:(ly.ty==4)=true:=by simpa using h4
   clear HT ht h4;go_upto_region 5 with(first|(refine DU ?_;clear hM;intro g W hM));refine qu ?_;refine qP [(gx,x.cX,67),(gp,[.string pa,.string pb,.slice (some ⟨b0,o0,none⟩) n0 cap,Iv act],24)] hM DN ?_;(clear hM;intro W hM);refine rD 0 ?_;refine rD 1 ?_;refine rD 2 ?_;refine rD 3 ?_;refine rD 4 ?_;refine dC 5 (fun K' hK'=> ?_);refine oL hM ?_ (hv:=uE hpre.out rfl);refine rK hK' hM ?_;clear hK' K';refine dC 6 (fun K' hK'=> ?_);have hyn:=hyn0.out;go_wp2_with fail;clear hyn;refine rK hK' hM ?_;clear hK' K';refine rD 7 ?_;refine rD 8 ?_;refine dC 9 (fun K' hK'=> ?_);refine oO hM (Bc haty.out) ?_;refine rK hK' hM ?_;clear hK' K';refine rD 10 ?_;refine rD 11 ?_;refine rE 12 ?_;refine rE 13 ?_;refine rE 14 ?_;refine rE 15 ?_
   first
    |refine Mz 16 hM ?_
    |(refine eC 16 (fun K' hK'=> ?_)
      go_wp2_with(first|(go_at_call 64;refine MK hM (fun R' hM'=>dW x y t ht2 hr hr8 hx hy (hide (hyc.out z2'.out)) hpre hM' hO) ?_;clear hM hO;intro V1 B1 W1 hO1 hM;simp only[List.cons_append,List.nil_append]at hM))
      refine rK hK' hM ?_;clear hK' K')
   refine rD 17 ?_;refine rD 18 ?_;refine qF DN ?_;go_wp2_with(first|(refine DU ?_;clear hM;intro g W hM))
   all_goals
    (go_ret;exact⟨rfl,V1,B1,jg hO1.out DL,qD (qD (qD hM))⟩)
  ·have hn:=hide (show t=none by rw[HT.out,if_neg h4]);have k4:(ly.ty==4)=false:=by simpa using h4
   clear HT ht h4;go_upto_region 5 with(first|(refine DU ?_;clear hM;intro g W hM));refine qu ?_;refine qP [(gx,x.cX,67),(gp,[.string pa,.string pb,.slice (some ⟨b0,o0,none⟩) n0 cap,Iv act],24)] hM DN ?_;(clear hM;intro W hM);refine rD 0 ?_;refine rD 1 ?_;refine rD 2 ?_;refine rD 3 ?_;refine rD 4 ?_;refine dC 5 (fun K' hK'=> ?_);refine oL hM ?_ (hv:=uE hpre.out rfl);refine rK hK' hM ?_;clear hK' K';refine dC 6 (fun K' hK'=> ?_);have hyn:=hyn0.out;go_wp2_with fail;clear hyn;refine rK hK' hM ?_;clear hK' K';refine rD 7 ?_;refine rD 8 ?_;refine dC 9 (fun K' hK'=> ?_);refine oO hM (Bc haty.out) ?_;refine rK hK' hM ?_;clear hK' K';refine rD 10 ?_;refine rD 11 ?_;refine rE 12 ?_;refine rE 13 ?_;refine rE 14 ?_;refine rE 15 ?_
   first
    |refine Mz 16 hM ?_
    |(refine eC 16 (fun K' hK'=> ?_)
      go_wp2_with fail
      refine rK hK' hM ?_;clear hK' K')
   refine rD 17 ?_;refine rD 18 ?_;refine qF DN ?_;go_wp2_with(first|(refine DU ?_;clear hM;intro g W hM))
   all_goals
    (go_ret;exact⟨by rw[hn.out];rfl,V,B,by rw[hn.out];exact jg hO.out DL,by rw[hn.out];exact qD (qD (qD (hM)))⟩)
end Go.Proofs.YtcgpbnlhnafhjaaGreatDoor
