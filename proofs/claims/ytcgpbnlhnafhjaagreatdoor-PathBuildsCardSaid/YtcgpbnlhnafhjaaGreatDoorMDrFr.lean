/-
  The turn of a waypoint that is flown by: the reference.
-/
import Derived.Test.YtcgpbnlhnafhjaaGreatDoorMDrMr
namespace Go.Proofs.YtcgpbnlhnafhjaaGreatDoor
open Go.RowKit
set_option linter.unusedVariables false
set_option linter.unusedSimpArgs false
set_option maxRecDepth 100000 in
set_option maxHeartbeats 8000000 in
theorem lj{w0 w:World}{gd:Nat}{rad:Int}{V:Value}{d:Dw}{B R:List zw}{m:Nat}(x y:Tk)(t:Option Dw)(ht:Hid (t=nn rad d x y))(hr:1≤rad)(hr8:rad≤8000000)(hx:1≤x.len)(hx2:x.len≤8000000)(hy:1≤y.len)(hy2:y.len≤8000000)(hM:qU w0 w ((gd,uC V d,74)::(B++R)))(hO:Hid (Zv V d.els B m))(hm:m≤90000:=by omega):
 Calls Tryz.prog 65 #[.pointer (some ⟨gd,0,none⟩),.agg x.cX.toArray,.agg y.cX.toArray,Iv rad] w fun e w'=>e= .returned (.bool t.isSome)∧∃V' B',Zv V' (t.getD d).els B' (m+3)∧qU w0 w' ((gd,uC V' (t.getD d),74)::(B'++R)):=by
 have CA:=fun W=>yX x.ax x.ay x.bx x.b_y W
 have CB:=fun W=>yX y.ax y.ay y.bx y.b_y W
 have ix:=uh x.ax x.ay x.bx x.b_y;have iy:=uh y.ax y.ay y.bx y.b_y;obtain⟨D,hD⟩:∃D,zJ (qN x.ax x.ay x.bx x.b_y).1 (qN y.ax y.ay y.bx y.b_y).1=D:=⟨_,rfl⟩;have DF:=fun W=>JW _ _ ix iy W
 have db:=tY (qN x.ax x.ay x.bx x.b_y).1 (qN y.ax y.ay y.bx y.b_y).1;rw[hD]at DF db;have HF:=hide (ht.out.trans (fT hD));generalize(qN x.ax x.ay x.bx x.b_y).1=x1 at*;generalize(qN y.ax y.ay y.bx y.b_y).1=y1 at*;generalize(qN x.ax x.ay x.bx x.b_y).2=x2 at*;generalize(qN y.ax y.ay y.bx y.b_y).2=y2 at*;clear hD ht ix iy;obtain⟨A,hA⟩:∃A:Int,(D.natAbs:Int)=A:=⟨_,rfl⟩;have bA:0≤A∧A≤64800000:=DL;have lx:=YC hx hx2;have ly:=YC hy hy2;obtain⟨lim,hlim⟩:∃lim,Kn x y=lim:=⟨_,rfl⟩;have hlim2:min (x.len.tdiv 2) (y.len.tdiv 2)=lim:=hlim;rw[hlim]at HF;have bl:0≤lim∧lim≤4000000:=by rw[←hlim2];omega
 clear hlim;go_enter Tryz.func65,Tryz.ntmps65;go_upto_region 0 with fail;refine qu ?_;go_cut [6,5] (fun s6 s5 wx=>∃gy gx:Nat,s6= .pointer (some ⟨gy,0,none⟩)∧s5= .pointer (some ⟨gx,0,none⟩)∧qU w0 wx ((gy,y.cX,67)::(gx,x.cX,67)::((gd,uC V d,74)::(B++R))))
 case first=>
  go_wp2_with(first|(refine DU ?_;clear hM;intro g W hM))
  all_goals
   go_meet;exact⟨_,_,rfl,rfl,hM⟩
 case rest=>
 clear hM;obtain⟨gy,gx,rfl,rfl,hM⟩:=hcut;go_upto_region 1 with(first|(refine DU ?_;clear hM;intro g W hM));refine qu ?_;go_cut [9] (fun s wx=>s=Iv lim∧qU w0 wx ((gy,y.cX,67)::(gx,x.cX,67)::((gd,uC V d,74)::(B++R))))
 case first=>
  go_wp2_with(first|(refine DU ?_;clear hM;intro g W hM))
  all_goals
   go_meet;exact⟨by first|rw[←hlim2]|(simp[←hlim2];done),hM⟩
 case rest=>
 clear hM;obtain⟨rfl,hM⟩:=hcut;clear hlim2;go_upto_if 50 with(first|(refine DU ?_;clear hM;intro g W hM)|(refine qf (CA _) ?_;clear hM;intro W1 hM)|(refine qf (CB _) ?_;clear hM;intro W1 hM)|refine DG (DF _) ?_);refine qu ?_;go_cut [14] (fun s wx=>s=Iv A∧qU w0 wx ((gy,y.cX,67)::(gx,x.cX,67)::((gd,uC V d,74)::(B++R))))
 case first=>
  by_cases hneg:D<0
  ·have w1:IntKind.i64.wrap (-D)=A:=by rw[IntWalk.i64_in _ DL];omega
   go_wp2_with(first|(refine DU ?_;clear hM;intro g W hM))
   all_goals
    go_meet;exact⟨rfl,hM⟩
  ·obtain rfl:D=A:=DL;go_wp2_with(first|(refine DU ?_;clear hM;intro g W hM))
   all_goals
    go_meet;exact⟨rfl,hM⟩
 case rest=>
 clear hM;obtain⟨rfl,hM⟩:=hcut;by_cases hbad:D=0∨54000000<A
 ·have hn:t=none:=by
   rw[HF.out,nL (by rw[hA];exact hbad)]
  have hss:(A==0)=true∨((A==0)=false∧decide (54000000<A)=true):=by
   by_cases h:A=0
   ·exact .inl (by simpa using h)
   ·exact .inr ⟨by simpa using h,decide_eq_true DL⟩
  clear HF hbad hA;rcases hss with hss|⟨hss,hss2⟩
  all_goals
   go_wp2_with(first|(refine DU ?_;clear hM;intro g W hM))
   all_goals
    (go_ret;exact⟨by rw[hn];rfl,V,B,by rw[hn];exact jg hO.out DL,by rw[hn];exact qD (qD hM)⟩)
 have h0:(A==0)=false:=by simp;omega
 have h54:¬54000000<A:=DL;have hnb:¬(D=0∨54000000<(D.natAbs:Int)):=DL;have HNB:=hide hnb;have hl:=YH (r:=rad) (d:=D) hr hr8 DL rfl;rw[hA]at hl;have MU:=fun W=>bc rad (jO (A/2)) (yF (A/2)) DP (by have:=bH (A/2);unfold qK;omega) (by have:=tJ (A/2);unfold qK;omega) W
 have SN:=fun W=>vC (A/2) DP W
 have CN:=fun W=>kg (A/2) DP W
 rw[hl.1]at MU;have lb:=hl.2;clear hl hbad hnb;obtain⟨l,hle⟩:∃l,jm rad D=l:=⟨_,rfl⟩;rw[hle]at MU lb;generalize jO (A/2)=sn at*;generalize yF (A/2)=cs at*;have HL:=hide hle;clear hle hA;go_upto_if 72 with(first|(refine DU ?_;clear hM;intro g W hM)|refine DG (SN _) ?_|refine DG (CN _) ?_|(refine JL (MU _) ?_;clear hM;intro n1 hM));refine qu ?_;go_cut [3] (fun s wx=>∃r,s=Iv r∧Hid (bU rad D lim=some r)∧0≤r∧r≤8000000∧qU w0 wx ((gy,y.cX,67)::(gx,x.cX,67)::((gd,uC V d,74)::(B++R))))
 case first=>
  by_cases hlt:lim<l
  ·have hq:=WP (rad:=rad) (lim:=lim) (lead:=l) hr bl.1 hlt
   have hmd:qR 0 rad lim l=(rad*lim/l,0):=by
    have e:vW 0 (rad*lim) l=rad*lim/l:=by
     unfold vW;rw[if_pos rfl,Int.fdiv_eq_ediv_of_nonneg _ DL]
    unfold qR;rw[if_neg DL,e,if_pos (by unfold Zp;exact decide_eq_true DL)]
   have MD:=fun W=>xK rad lim l DP DP DP W
   rw[hmd]at MD
   have HQ:=hide (show bU rad D lim=if rad*lim/l<600 then none else some (rad*lim/l) by
    by_cases h6:rad*lim/l<600
    ·rw[if_pos h6];exact fR HNB.out HL.out hlt h6
    ·rw[if_neg h6];exact nM HNB.out HL.out hlt h6)
   clear hmd;generalize rad*lim/l=r at*;by_cases h6:r<600
   ·have hn:t=none:=by rw[HF.out,HQ.out,if_pos h6]
    clear HF HNB HL HQ;go_wp2_with(first|(refine DU ?_;clear hM;intro g W hM)|(go_at_call 133;(with_reducible refine(MD _).mono ?_);rintro e W1 ⟨rfl,n1,rfl⟩;replace hM:=yp hM n1;rw[World.drewN_drewN]at hM))
    all_goals
     (go_ret;exact⟨by rw[hn];rfl,V,B,by rw[hn];exact jg hO.out DL,by rw[hn];exact qD (qD hM)⟩)
   ·have hS:=hide (HQ.out.trans (if_neg h6));go_wp2_with(first|(refine DU ?_;clear hM;intro g W hM)|(go_at_call 133;(with_reducible refine(MD _).mono ?_);rintro e W1 ⟨rfl,n1,rfl⟩;replace hM:=yp hM n1;rw[World.drewN_drewN]at hM))
    all_goals
     go_meet;exact⟨r,rfl,hS,by omega,by omega,hM⟩
  ·have hS:=hide (fS HNB.out HL.out hlt);go_wp2_with(first|(refine DU ?_;clear hM;intro g W hM))
   all_goals
    go_meet;exact⟨rad,rfl,hS,by omega,by omega,hM⟩
 case rest=>
 clear hM;obtain⟨r,rfl,HS,r0,r1,hM⟩:=hcut;obtain⟨v0,v1,v2,v3,v4,v5,v6,v7,v8,v9,e0,hR⟩:=fU x.ax x.ay x.bx x.b_y y.bx y.b_y r;have FL:=fun W=>rv x.ax x.ay x.bx x.b_y y.bx y.b_y r W v0 v1 v2 v3 v4 v5 v6 v7 v8 v9 e0 (hide hR)
 have HG:Hid (t=if e0≠0∨v9=0∨lim<v9 then none else ut d x.n y.n [v0,v1,v2,v3,v4,v5,v6,v7,v8,v9]):=hide (by
  rw[HF.out,HS.out];dsimp only;rw[←hR]
  rfl)
 have HB:Hid (e0=0→ur v0 v1 v2 v3 v4=true):=hide (fun h=>by subst h;exact ma hR.symm);clear HF HS HNB HL hR;by_cases hbad:e0≠0∨v9=0∨lim<v9
 ·have hn:t=none:=by rw[HG.out,if_pos hbad]
  have hss:(e0 !=0)=true∨((e0 !=0)=false∧(v9==0)=true)∨((e0 !=0)=false∧(v9==0)=false∧decide (lim<v9)=true):=by
   by_cases h:e0=0
   ·by_cases h2:v9=0
    ·exact .inr (.inl ⟨by simpa using h,by simpa using h2⟩)
    ·exact .inr (.inr ⟨by simpa using h,by simpa using h2,decide_eq_true DL⟩)
   ·exact .inl (by simpa using h)
  clear HG hbad HB;rcases hss with hss|⟨hss,hss2⟩|⟨hss,hss2,hss3⟩
  all_goals
   go_wp2_with(first|(refine DU ?_;clear hM;intro g W hM)|(refine qf (FL _) ?_;clear hM;intro W1 hM))
   all_goals
    (go_ret;exact⟨by rw[hn];rfl,V,B,by rw[hn];exact jg hO.out DL,by rw[hn];exact qD (qD (qD hM))⟩)
 obtain rfl:e0=0:=DL;have h91:(v9==0)=false:=by simp;omega
 have h92:¬lim<v9:=DL;have HG2:Hid (t=ut d x.n y.n [v0,v1,v2,v3,v4,v5,v6,v7,v8,v9]):=hide (by rw[HG.out,if_neg hbad]);have hB:=(Qc _ _ _ _ _).1 (HB.out rfl);obtain⟨hB1,hB2,hB3,hB4,hB5,hB6,hB7⟩:=hB;have hh:=ny v4;clear HG HB hbad hB1;go_upto_region 17 with(first|(refine DU ?_;clear hM;intro g W hM)|(refine qf (FL _) ?_;clear hM;intro W1 hM));refine qu ?_;obtain⟨gf,rfl⟩:=Dy hM;go_cut [19,20] (fun s18 s19 wx=>∃g18 g19:Nat,s18= .pointer (some ⟨g18,0,none⟩)∧s19= .pointer (some ⟨g19,0,none⟩)∧qU w0 wx ((g19,[Iv v0,Iv v1,Iv v2,Iv v3,Iv v4],51)::(g18,[Iv v0,Iv v1,Iv v2,Iv v3,Iv v4],51)::((gf,[Iv v0,Iv v1,Iv v2,Iv v3,Iv v4,Iv v5,Iv v6,Iv v7,Iv v8,Iv v9],138)::((gy,y.cX,67)::(gx,x.cX,67)::((gd,uC V d,74)::(B++R))))))
 case first=>
  refine qP [(gf,[Iv v0,Iv v1,Iv v2,Iv v3,Iv v4,Iv v5,Iv v6,Iv v7,Iv v8,Iv v9],138)] hM DN ?_;(clear hM;intro W hM);refine rD 0 ?_;refine rD 1 ?_;refine rD 2 ?_;refine rD 3 ?_;refine dT 4 5 (fun K' hK'=> ?_) (fun K' hK'=> ?_)
  ·
   refine oN hM ?_;clear hM;intro g19 W hM;refine rK hK' hM ?_;clear hK' K';refine dC 5 (fun K' hK'=> ?_);refine oN hM ?_;clear hM;intro g20 W hM;refine rK hK' hM ?_;clear hK' K';refine dC 6 (fun K' hK'=> ?_);refine oS hM ?_;clear hM;intro W hM;refine rK hK' hM ?_;clear hK' K';refine dC 7 (fun K' hK'=> ?_);refine oS hM ?_;clear hM;intro W hM;refine rK hK' hM ?_;clear hK' K';refine qF DN ?_;go_wp2_with fail
   all_goals
    go_meet;exact⟨_,_,rfl,rfl,by first|exact hM|exact zL hM (List.Perm.swap _ _ _)⟩
  ·
   refine oN hM ?_;clear hM;intro g20 W hM;refine rK hK' hM ?_;clear hK' K';refine dC 4 (fun K' hK'=> ?_);refine oN hM ?_;clear hM;intro g19 W hM;refine rK hK' hM ?_;clear hK' K';refine dC 6 (fun K' hK'=> ?_);refine oS hM ?_;clear hM;intro W hM;refine rK hK' hM ?_;clear hK' K';refine dC 7 (fun K' hK'=> ?_);refine oS hM ?_;clear hM;intro W hM;refine rK hK' hM ?_;clear hK' K';refine qF DN ?_;go_wp2_with fail
   all_goals
    go_meet;exact⟨_,_,rfl,rfl,by first|exact hM|exact zL hM (List.Perm.swap _ _ _)⟩
 case rest=>
 clear hM;obtain⟨g18,g19,rfl,rfl,hM⟩:=hcut;have w3:=wi (x:=v4-v4.tdiv 2) DL DL;have w4:=wi (x:=v3+v4.tdiv 2) DL DL;have NM:=fun W=>jl (v3+v4.tdiv 2) DP W
 have TL:=fun W=>uY v0 v1 v2 v3 (v4.tdiv 2) W
 obtain⟨X,Y,C,E,hat⟩:∃X Y C E,jp v0 v1 v2 v3 (v4.tdiv 2) (qX v0 v1 v2 v3 (v4.tdiv 2))=(X,Y,C,E):=⟨_,_,_,_,rfl⟩;have AT:=fun W=>TX v0 v1 v2 v3 (v4.tdiv 2) (qX v0 v1 v2 v3 (v4.tdiv 2)) W _ hat.symm
 have HG3:Hid (t=if E≠0 then none else some (vq (vq (jf d v5 v6 x.n) v0 v1 v2 v3 (v4.tdiv 2) X Y x.n) v0 v1 v2 (norm (v3+v4.tdiv 2)) (v4-v4.tdiv 2) v7 v8 y.n)):=hide (by
  rw[HG2.out];unfold ut;dsimp only
  rw[hat])
 clear HG2 hat hh;generalize qX v0 v1 v2 v3 (v4.tdiv 2)=n1 at*;go_upto_region 21 with(first|(refine DU ?_;clear hM;intro g W hM)|refine DG (NM _) ?_);refine qu ?_;generalize norm (v3+v4.tdiv 2)=f2 at*;generalize v4-v4.tdiv 2=s2 at*;generalize v4.tdiv 2=s1 at*;clear w3 w4 NM;go_cut [21,18] (fun s20 s15 wx=>∃g20:Nat,s20= .pointer (some ⟨g20,0,none⟩)∧s15=Iv E∧qU w0 wx ((g20,[Iv X,Iv Y],26)::(g19,[Iv v0,Iv v1,Iv v2,Iv f2,Iv s2],51)::(g18,[Iv v0,Iv v1,Iv v2,Iv v3,Iv s1],51)::((gf,[Iv v0,Iv v1,Iv v2,Iv v3,Iv v4,Iv v5,Iv v6,Iv v7,Iv v8,Iv v9],138)::((gy,y.cX,67)::(gx,x.cX,67)::((gd,uC V d,74)::(B++R))))))
 case first=>
  refine qP [(g18,[Iv v0,Iv v1,Iv v2,Iv v3,Iv s1],51)] hM DN ?_;(clear hM;intro W hM);refine rD 0 ?_;refine rD 1 ?_;refine dT 2 8 (fun K' hK'=> ?_) (fun K' hK'=> ?_)
  ·
   go_wp2_with(first|(refine qf (TL _) ?_;clear hM;intro W1 hM)|(refine qf (AT _) ?_;clear hM;intro W1 hM));refine rK hK' hM ?_;clear hK' K';refine dT 3 8 (fun K' hK'=> ?_) (fun K' hK'=> ?_)
   ·
    go_wp2_with(first|(refine qf (TL _) ?_;clear hM;intro W1 hM)|(refine qf (AT _) ?_;clear hM;intro W1 hM));refine rK hK' hM ?_;clear hK' K';refine rD 4 ?_;refine rD 5 ?_;refine rD 6 ?_;refine rD 7 ?_;refine dC 8 (fun K' hK'=> ?_);refine oN hM ?_;clear hM;intro g21 W hM;refine rK hK' hM ?_;clear hK' K';refine dC 9 (fun K' hK'=> ?_);refine oS hM ?_;clear hM;intro W hM;refine rK hK' hM ?_;clear hK' K';refine rD 10 ?_;refine rD 11 ?_;refine qF DN ?_;go_wp2_with fail
    all_goals
     go_meet;exact⟨_,rfl,rfl,by first|exact hM|exact zL hM (List.Perm.swap _ _ _)⟩
   ·
    refine oN hM ?_;clear hM;intro g21 W hM;refine rK hK' hM ?_;clear hK' K';refine dC 3 (fun K' hK'=> ?_);go_wp2_with(first|(refine qf (TL _) ?_;clear hM;intro W1 hM)|(refine qf (AT _) ?_;clear hM;intro W1 hM));refine rK hK' hM ?_;clear hK' K';refine rD 4 ?_;refine rD 5 ?_;refine rD 6 ?_;refine rD 7 ?_;refine dC 9 (fun K' hK'=> ?_);refine oS hM ?_;clear hM;intro W hM;refine rK hK' hM ?_;clear hK' K';refine rD 10 ?_;refine rD 11 ?_;refine qF DN ?_;go_wp2_with fail
    all_goals
     go_meet;exact⟨_,rfl,rfl,by first|exact hM|exact zL hM (List.Perm.swap _ _ _)⟩
  ·
   refine oN hM ?_;clear hM;intro g21 W hM;refine rK hK' hM ?_;clear hK' K';refine dC 2 (fun K' hK'=> ?_);go_wp2_with(first|(refine qf (TL _) ?_;clear hM;intro W1 hM)|(refine qf (AT _) ?_;clear hM;intro W1 hM));refine rK hK' hM ?_;clear hK' K';refine dC 3 (fun K' hK'=> ?_);go_wp2_with(first|(refine qf (TL _) ?_;clear hM;intro W1 hM)|(refine qf (AT _) ?_;clear hM;intro W1 hM));refine rK hK' hM ?_;clear hK' K';refine rD 4 ?_;refine rD 5 ?_;refine rD 6 ?_;refine rD 7 ?_;refine dC 9 (fun K' hK'=> ?_);refine oS hM ?_;clear hM;intro W hM;refine rK hK' hM ?_;clear hK' K';refine rD 10 ?_;refine rD 11 ?_;refine qF DN ?_;go_wp2_with fail
   all_goals
    go_meet;exact⟨_,rfl,rfl,by first|exact hM|exact zL hM (List.Perm.swap _ _ _)⟩
 case rest=>
 clear hM;obtain⟨g20,rfl,rfl,hM⟩:=hcut;by_cases hE:E=0;rotate_left 1
 ·have hn:t=none:=by rw[HG3.out,if_pos hE]
  have hE':(E !=0)=true:=by simpa using hE
  clear HG3 hE;go_wp2_with(first|(refine DU ?_;clear hM;intro g W hM))
  all_goals
   (go_ret;exact⟨by rw[hn];rfl,V,B,by rw[hn];exact jg hO.out DL,by rw[hn];exact qD (qD (qD (qD (qD (qD hM)))))⟩)
 subst hE;have hn:t=some (vq (vq (jf d v5 v6 x.n) v0 v1 v2 v3 s1 X Y x.n) v0 v1 v2 f2 s2 v7 v8 y.n):=by rw[HG3.out,if_neg DS]
 have HN:=hide hn;clear HG3 hn;go_wp2_with(first|(refine DU ?_;clear hM;intro g W hM)|(go_at_call 20;(with_reducible refine cP hM (fun hM'=>Ze v5 v6 x.n hM' hO) ?_);clear hM hO;intro d1 V1 B1 W1 hd1 hO1 hM;simp only[List.cons_append,List.nil_append]at hM)|(go_at_call 21;(with_reducible refine cP hM (fun hM'=>nP v0 v1 v2 v3 s1 X Y x.n hM' hO1) ?_);clear hM hO1;intro d2 V2 B2 W2 hd2 hO2 hM;simp only[List.cons_append,List.nil_append]at hM)|(go_at_call 21;(with_reducible refine cP hM (fun hM'=>nP v0 v1 v2 f2 s2 v7 v8 y.n hM' hO2) ?_);clear hM hO2;intro d3 V3 B3 W3 hd3 hO3 hM;simp only[List.cons_append,List.nil_append]at hM))
 all_goals
  have e2:t.getD d=d3:=by rw[HN.out,Option.getD_some,hd1.out,hd2.out,hd3.out]
  have e3:t.isSome=true:=by rw[HN.out,Option.isSome_some]
  (go_ret;exact⟨by rw[e3];rfl,V3,B3,by rw[e2];exact hO3.out,by rw[e2];exact qD (qD (qD (qD (qD (qD hM)))))⟩)
set_option maxRecDepth 100000 in
set_option maxHeartbeats 8000000 in
theorem dW{w0 w:World}{gd:Nat}{rad:Int}{V:Value}{d:Dw}{B R:List zw}{m gT o:Nat}{pre post:List Value}(x y:Tk)(t:Option (Dw×Tk))(ht:Hid (t=Yw rad d x y))(hr:1≤rad)(hr8:rad≤8000000)(hx: -129600000≤x.co∧x.co≤259200000)(hy: -129600000≤y.ci∧y.ci≤259200000)(hyc:Hid (y.co=y.ci))(hpre:Hid (pre.length=o))
 (hM:qU w0 w ((gd,uC V d,74)::(B++((gT,pre++mid y.cX post,67)::R)))) (hO:Hid (Zv V d.els B m)) (hm:m≤90000:=by omega):
 Calls Tryz.prog 64 #[.pointer (some ⟨gd,0,none⟩),.agg x.cX.toArray,.pointer (some ⟨gT,o,none⟩),Iv rad] w fun e w'=>e= .returned (.bool t.isSome)∧∃V' B',Zv V' ((t.map (·.1)).getD d).els B' (m+2)∧qU w0 w' ((gd,uC V' ((t.map (·.1)).getD d),74)::(B'++((gT,pre++mid ((t.map (·.2)).getD y).cells post,67)::R))):=by
 have db:=tY x.co y.ci;have DF:=fun W=>JW x.co y.ci DP DP W
 obtain⟨D,hD⟩:∃D,zJ x.co y.ci=D:=⟨_,rfl⟩;rw[hD]at DF db;have HD:=hide hD;clear hD;go_enter Tryz.func64,Tryz.ntmps64;go_upto_region 0 with fail;refine qu ?_;go_cut [5] (fun s5 wx=>∃gx:Nat,s5= .pointer (some ⟨gx,0,none⟩)∧qU w0 wx ((gx,x.cX,67)::((gd,uC V d,74)::(B++((gT,pre++mid y.cX post,67)::R)))))
 case first=>
  go_wp2_with(first|(refine DU ?_;clear hM;intro g W hM))
  all_goals
   go_meet;exact⟨_,rfl,hM⟩
 case rest=>
 clear hM;obtain⟨gx,rfl,hM⟩:=hcut;go_upto_region 1 with(first|(refine DU ?_;clear hM;intro g W hM));refine qu ?_;go_cut [9] (fun s9 wx=>s9=Iv D∧qU w0 wx ((gx,x.cX,67)::((gd,uC V d,74)::(B++((gT,pre++mid y.cX post,67)::R)))))
 case first=>
  refine qP [(gx,x.cX,67),(gT,pre++mid y.cX post,67)] hM DN ?_;(clear hM;intro W hM);refine rD 0 ?_;refine rD 1 ?_;refine rD 2 ?_;refine rD 3 ?_;refine rD 4 ?_;refine dL 5 hM ?_ (hv:=uE hpre.out rfl);refine qu ?_;refine dC 6 (fun K' hK'=> ?_);go_wp2_with(first|refine DG (DF _) ?_);refine rK hK' hM ?_;clear hK' K';refine rD 7 ?_;refine qF DN ?_;go_wp2_with fail
  all_goals
   go_meet;exact⟨rfl,hM⟩
 case rest=>
 clear hM;obtain⟨rfl,hM⟩:=hcut
 obtain⟨q,b,right,qb,HF,HB,hbr,hqD⟩:∃(q b:Int) (right:Bool),(q=32400000∨q= -32400000)∧Hid (D≠0→xI x.co D=x.co+q)∧Hid (right=decide (0<D)∨D=0)∧(b=1∧right=false∨b=2∧right=true)∧(D<0∧q= -32400000∧b=1∨¬D<0∧q=32400000∧b=2):=by
  by_cases hlt:D<0
  ·exact⟨-32400000,1,false,.inr rfl,hide (fun _=>by unfold xI;rw[if_neg DL]),hide (.inl (decide_eq_false DL).symm),.inl ⟨rfl,rfl⟩,.inl ⟨hlt,rfl,rfl⟩⟩
  ·by_cases h0:D=0
   ·exact⟨32400000,2,true,.inl rfl,hide (fun h=>absurd h0 h),hide (.inr h0),.inr ⟨rfl,rfl⟩,.inr ⟨hlt,rfl,rfl⟩⟩
   ·exact⟨32400000,2,true,.inl rfl,hide (fun _=>by unfold xI;rw[if_pos DL]),hide (.inl (decide_eq_true DL).symm),.inr ⟨rfl,rfl⟩,.inr ⟨hlt,rfl,rfl⟩⟩
 go_upto_region 2 with(first|(refine DU ?_;clear hM;intro g W hM));refine qu ?_;go_cut [10,11] (fun s10 s11 wx=>s10= .int .u8 2∧s11=Iv (x.co+32400000)∧qU w0 wx ((gx,x.cX,67)::((gd,uC V d,74)::(B++((gT,pre++mid y.cX post,67)::R)))))
 case first=>
  have w1:=IntWalk.i64_in (x.co+32400000) DL;refine qP [(gx,x.cX,67)] hM DN ?_;(clear hM;intro W hM);refine rD 0 ?_;refine rD 1 ?_;refine rD 2 ?_;refine rD 3 ?_;refine rD 4 ?_;refine qF DN ?_;go_wp2_with fail
  all_goals
   go_meet;exact⟨rfl,rfl,hM⟩
 case rest=>
 clear hM;obtain⟨rfl,rfl,hM⟩:=hcut;go_upto_if 27 with(first|(refine DU ?_;clear hM;intro g W hM));refine qu ?_;go_cut [10,11] (fun s10 s11 wx=>s10= .int .u8 b∧s11=Iv (x.co+q)∧qU w0 wx ((gx,x.cX,67)::((gd,uC V d,74)::(B++((gT,pre++mid y.cX post,67)::R)))))
 case first=>
  rcases hqD with⟨hlt,rfl,rfl⟩|⟨hlt,rfl,rfl⟩
  ·have w1:IntKind.i64.wrap (x.co-32400000)=x.co+ -32400000:=by rw[IntWalk.i64_in _ DL];omega
   go_upto_region 4 with(first|(refine DU ?_;clear hM;intro g W hM));refine qu ?_;refine qP [(gx,x.cX,67)] hM DN ?_;(clear hM;intro W hM);refine rD 0 ?_;refine rD 1 ?_;refine rD 2 ?_;refine rD 3 ?_;refine rD 4 ?_;refine qF DN ?_;go_wp2_with fail
   all_goals
    go_meet;exact⟨rfl,rfl,hM⟩
  ·go_wp2_with(first|(refine DU ?_;clear hM;intro g W hM))
   all_goals
    go_meet;exact⟨rfl,rfl,hM⟩
 case rest=>
 clear hM;obtain⟨rfl,rfl,hM⟩:=hcut;clear hqD;obtain⟨kx,ky,e1,hr1⟩:∃kx ky e1,zi x.bx x.b_y (x.co+q) rad=(kx,ky,e1):=⟨_,_,_,rfl⟩;have RY:=fun W=>jv x.bx x.b_y (x.co+q) rad DP DP W _ hr1.symm
 by_cases hbad:e1≠0∨D=0
 ·have hn:t=none:=by
   by_cases h0:D=0
   ·exact ht.out.trans (nR HD.out h0)
   ·exact ht.out.trans (fW HD.out h0 (by rw[HF.out h0];exact hr1) (hbad.resolve_right h0))
  have hss:(e1 !=0)=true∨((e1 !=0)=false∧(D==0)=true):=by
   by_cases h:e1=0
   ·exact .inr ⟨by simpa using h,by simpa using hbad.resolve_left (fun n=>n h)⟩
   ·exact .inl (by simpa using h)
  clear hbad ht hr1 HF HB hbr;rcases hss with hss|⟨hss,hss2⟩
  all_goals
   go_wp2_with(first|(refine DU ?_;clear hM;intro g W hM)|(refine qf (RY _) ?_;clear hM;intro W1 hM))
   all_goals
    (go_ret;(try rw[hn]);exact⟨rfl,V,B,jg hO.out DL,qD (qD (hM))⟩)
 have h0:¬D=0:=fun h=>hbad (.inr h)
 obtain rfl:e1=0:=Classical.not_not.1 fun h=>hbad (.inl h)
 have hz:(D==0)=false:=by simpa using h0
 have HR1:=hide (show zi x.bx x.b_y (xI x.co D) rad=(kx,ky,0) by rw[HF.out h0];exact hr1);have HB2:Hid (right=decide (0<D)):=hide (HB.out.resolve_right h0);clear hr1 hbad HF HB;have HB:=HB2;clear HB2;go_upto_region 8 with(first|(refine DU ?_;clear hM;intro g W hM)|(refine qf (RY _) ?_;clear hM;intro W1 hM));refine qu ?_;obtain⟨gc,rfl⟩:=Dy hM;obtain⟨tx,ty,e2,ht2⟩:∃tx ty e2,Zj kx ky rad y.bx y.b_y right=(tx,ty,e2):=⟨_,_,_,rfl⟩;have TA:=fun W=>Np kx ky rad y.bx y.b_y b right hbr W tx ty e2 (hide ht2.symm)
 have HT2:=hide ht2;clear ht2 RY;go_cut [14,13] (fun s14 s13 wx=>∃gt:Nat,s14= .pointer (some ⟨gt,0,none⟩)∧s13=Iv e2∧qU w0 wx ((gt,[Iv tx,Iv ty],26)::((gc,[Iv kx,Iv ky],26)::((gx,x.cX,67)::((gd,uC V d,74)::(B++((gT,pre++mid y.cX post,67)::R)))))))
 case first=>
  refine qP [(gc,[Iv kx,Iv ky],26),(gT,pre++mid y.cX post,67)] hM DN ?_;(clear hM;intro W hM);refine rD 0 ?_;refine rD 1 ?_;refine rD 2 ?_;refine rD 3 ?_;refine rD 4 ?_;refine rD 5 ?_;refine dM 6 hM ?_ (hC:=jK hpre.out (by((repeat constructor)<;>fail)));refine qu ?_;refine dT 7 11 (fun K' hK'=> ?_) (fun K' hK'=> ?_)
  ·
   go_wp2_with(first|(refine qf (TA _) ?_;clear hM;intro W1 hM));refine rK hK' hM ?_;clear hK' K';refine rD 8 ?_;refine rD 9 ?_;refine rD 10 ?_;refine dC 11 (fun K' hK'=> ?_);refine oN hM ?_;clear hM;intro g14 W hM;refine rK hK' hM ?_;clear hK' K';refine dC 12 (fun K' hK'=> ?_);refine oS hM ?_;clear hM;intro W hM;refine rK hK' hM ?_;clear hK' K';refine rD 13 ?_;refine qF DN ?_;go_wp2_with fail
   all_goals
    go_meet;exact⟨_,rfl,rfl,hM⟩
  ·
   refine oN hM ?_;clear hM;intro g14 W hM;refine rK hK' hM ?_;clear hK' K';refine dC 7 (fun K' hK'=> ?_);go_wp2_with(first|(refine qf (TA _) ?_;clear hM;intro W1 hM));refine rK hK' hM ?_;clear hK' K';refine rD 8 ?_;refine rD 9 ?_;refine rD 10 ?_;refine dC 12 (fun K' hK'=> ?_);refine oS hM ?_;clear hM;intro W hM;refine rK hK' hM ?_;clear hK' K';refine rD 13 ?_;refine qF DN ?_;go_wp2_with fail
   all_goals
    go_meet;exact⟨_,rfl,rfl,hM⟩
 case rest=>
 clear hM;obtain⟨gt,rfl,rfl,hM⟩:=hcut;by_cases he2:e2=0;rotate_left 1
 ·have hn:t=none:=ht.out.trans (fX HD.out HB.out h0 HR1.out HT2.out he2);have he2':(e2 !=0)=true:=by simpa using he2
  clear he2 ht;go_wp2_with(first|(refine DU ?_;clear hM;intro g W hM))
  all_goals
   (go_ret;(try rw[hn]);exact⟨rfl,V,B,jg hO.out DL,qD (qD (qD (hM)))⟩)
 subst he2;obtain⟨v0,v1,v2,v3,v4,e3,ha3⟩:=Gd x.bx x.b_y kx ky tx ty right;have AO:=fun W=>Jv x.bx x.b_y kx ky tx ty b right hbr W v0 v1 v2 v3 v4 e3 ha3.symm
 have HT:=hide (ht.out.trans (fY HD.out HB.out h0 HR1.out HT2.out ha3));clear ha3 ht HD HB HR1 HT2 TA hbr;by_cases he3:e3=0;rotate_left 1
 ·have hn:t=none:=by rw[HT.out,if_pos he3]
  have he3':(e3 !=0)=true:=by simpa using he3
  clear he3 HT;go_wp2_with(first|(refine DU ?_;clear hM;intro g W hM)|(refine qf (AO _) ?_;clear hM;intro W1 hM))
  all_goals
   (go_ret;(try rw[hn]);exact⟨rfl,V,B,jg hO.out DL,qD (qD (qD (qD (hM))))⟩)
 subst he3;have HT3:=hide (HT.out.trans (if_neg DS));clear HT;go_upto_region 15 with(first|(refine DU ?_;clear hM;intro g W hM)|(refine qf (AO _) ?_;clear hM;intro W1 hM)|(go_at_call 20;(with_reducible refine cP hM (fun hM'=>Ze x.bx x.b_y x.n hM' hO) ?_);clear hM hO;intro d1 V1 B1 W1 hd1 hO1 hM;simp only[List.cons_append,List.nil_append]at hM));refine qu ?_;obtain⟨ga,rfl⟩:=Dy hM;have DC:=fun W=>ui tx ty y.bx y.b_y W
 obtain⟨k1,hk1⟩:∃k1,qY tx ty y.bx y.b_y=k1:=⟨_,rfl⟩;rw[hk1]at DC;go_cut [] (fun wx=>∃d2 V2 B2,Hid (vq d1 v0 v1 v2 v3 v4 tx ty y.n=d2)∧Hid (Zv V2 d2.els B2 (m+1+1))∧qU w0 wx ((ga,[Iv v0,Iv v1,Iv v2,Iv v3,Iv v4],51)::(gt,[Iv tx,Iv ty],26)::(gc,[Iv kx,Iv ky],26)::(gx,x.cX,67)::(gd,uC V2 d2,74)::(B2++((gT,pre++mid y.cX post,67)::R))))
 case first=>
  refine qP [(ga,[Iv v0,Iv v1,Iv v2,Iv v3,Iv v4],51),(gt,[Iv tx,Iv ty],26),(gT,pre++mid y.cX post,67)] hM DN ?_;(clear hM;intro W hM);refine rD 0 ?_;refine rD 1 ?_;refine rD 2 ?_;refine rD 3 ?_;refine rD 4 ?_;refine rD 5 ?_;refine dL 6 hM ?_ (hv:=uE hpre.out rfl);refine qu ?_;refine dC 7 (fun K' hK'=> ?_);go_wp2_with(first|(go_at_call 21;(with_reducible refine cP hM (fun hM'=>nP v0 v1 v2 v3 v4 tx ty y.n hM' hO1) ?_);clear hM hO1;intro d2 V2 B2 W2 hd2 hO2 hM;simp only[List.cons_append,List.nil_append]at hM));refine rK hK' hM ?_;clear hK' K';refine qF DN ?_;go_wp2_with fail
  all_goals
   go_meet;exact⟨_,_,_,hd2,hO2,hM⟩
 case rest=>
 clear hM hO1;obtain⟨d2,V2,B2,hd2,hO2,hM⟩:=hcut;go_upto_region 16 with(first|(refine DU ?_;clear hM;intro g W hM));refine qu ?_;go_cut [] (fun wx=>qU w0 wx ((ga,[Iv v0,Iv v1,Iv v2,Iv v3,Iv v4],51)::(gt,[Iv tx,Iv ty],26)::(gc,[Iv kx,Iv ky],26)::(gx,x.cX,67)::(gd,uC V2 d2,74)::(B2++((gT,pre++mid (DJ y.k tx ty y.bx y.b_y y.cx y.cy y.r y.f y.s y.ci y.co k1 y.n y.g) post,67)::R))))
 case first=>
  refine qP [(gt,[Iv tx,Iv ty],26)] hM DN ?_;(clear hM;intro W hM);refine rD 0 ?_;refine rD 1 ?_;refine rD 2 ?_;refine rD 3 ?_;refine rD 4 ?_;refine rD 5 ?_;refine rD 6 ?_;refine dC 7 (fun K' hK'=> ?_);refine oM hM ?_ (hC:=jK hpre.out (by((repeat constructor)<;>fail)));refine rK hK' hM ?_;clear hK' K';refine dC 8 (fun K' hK'=> ?_);go_wp2_with(first|(refine qf (DC _) ?_;clear hM;intro W1 hM));refine rK hK' hM ?_;clear hK' K';refine rD 9 ?_;refine rD 10 ?_;refine dC 11 (fun K' hK'=> ?_);refine oS hM ?_ (hc:=vO hpre.out (by((repeat constructor)<;>fail)));clear hM;intro W hM;refine rK hK' hM ?_;clear hK' K';refine rD 12 ?_;refine rD 13 ?_;refine dC 14 (fun K' hK'=> ?_);refine oS hM ?_ (hc:=vO hpre.out (by((repeat constructor)<;>fail)));clear hM;intro W hM;refine rK hK' hM ?_;clear hK' K';refine qF DN ?_;go_wp2_with fail
  all_goals
   go_meet;exact hM
 case rest=>
 clear hM;have hM:=hcut;clear hcut;go_upto_region 17 with(first|(refine DU ?_;clear hM;intro g W hM));refine qu ?_;by_cases hq:tx=y.bx∧ty=y.b_y
 ·have hq1:=hq.1;have hq2:=hq.2;refine qP [(gt,[Iv tx,Iv ty],26),(gT,pre++mid (DJ y.k tx ty y.bx y.b_y y.cx y.cy y.r y.f y.s y.ci y.co k1 y.n y.g) post,67)] hM DN ?_;(clear hM;intro W hM);refine rD 0 ?_;refine rD 1 ?_;refine rD 2 ?_;refine rD 3 ?_;refine dM 4 hM ?_ (hC:=jK hpre.out (by((repeat constructor)<;>fail)));refine qu ?_;refine dP 5 (v:= .bool false) hM ?_ (hv:=by(intro W0;go_simp;(try rw[if_pos hq1,if_pos hq2])));refine qu ?_;refine qF DN ?_;have hk0:k1=0:=by rw[←hk1,hq.1,hq.2];exact Ju y.bx y.b_y
  subst hk0;have HN:=hide (show t=some (vq (jf d x.bx x.b_y x.n) v0 v1 v2 v3 v4 tx ty y.n,{y with ax:=tx,ay:=ty,co:=y.ci,len:=0}) by rw[HT3.out,if_pos hq]);clear hk1;go_wp2_with(first|(refine DU ?_;clear hM;intro g W hM))
  all_goals
   have e2:(t.map (·.1)).getD d=d2:=by rw[HN.out,Option.map_some,Option.getD_some,hd1.out,hd2.out]
   have e3:t.isSome=true:=by rw[HN.out,Option.isSome_some]
   have e4:((t.map (·.2)).getD y).cells=(DJ y.k tx ty y.bx y.b_y y.cx y.cy y.r y.f y.s y.ci y.co 0 y.n y.g):=by rw[HN.out,Option.map_some,Option.getD_some];first|rfl|(rw[hyc.out];rfl)
   (go_ret;exact⟨by rw[e3];rfl,V2,B2,by rw[e2];exact hO2.out,by rw[e2,e4];exact qD (qD (qD (qD hM)))⟩)
 ·(
  refine qP [(gt,[Iv tx,Iv ty],26),(gT,pre++mid (DJ y.k tx ty y.bx y.b_y y.cx y.cy y.r y.f y.s y.ci y.co k1 y.n y.g) post,67)] hM DN ?_;(clear hM;intro W hM);refine rD 0 ?_;refine rD 1 ?_;refine rD 2 ?_;refine rD 3 ?_;refine dM 4 hM ?_ (hC:=jK hpre.out (by((repeat constructor)<;>fail)));refine qu ?_;refine dP 5 (v:= .bool true) hM ?_ (hv:=by(intro W0;go_simp;exact fun h1 h2=>hq ⟨h1,h2⟩));refine qu ?_;refine qF DN ?_;have CC:=fun W=>yX tx ty y.bx y.b_y W
  obtain⟨c1,hc1⟩:∃c1,(qN tx ty y.bx y.b_y).1=c1:=⟨_,rfl⟩;have HN:=hide (show t=some (vq (jf d x.bx x.b_y x.n) v0 v1 v2 v3 v4 tx ty y.n,{y with ax:=tx,ay:=ty,ci:=c1,co:=c1,len:=k1}) by rw[HT3.out,if_neg hq,hc1,hk1]);rw[hc1]at CC;clear hc1 hk1 HT3 hq;go_upto_region 18 with(first|(refine DU ?_;clear hM;intro g W hM));refine qu ?_;go_cut [] (fun wx=>qU w0 wx ((ga,[Iv v0,Iv v1,Iv v2,Iv v3,Iv v4],51)::(gt,[Iv tx,Iv ty],26)::(gc,[Iv kx,Iv ky],26)::(gx,x.cX,67)::(gd,uC V2 d2,74)::(B2++((gT,pre++mid (DJ y.k tx ty y.bx y.b_y y.cx y.cy y.r y.f y.s c1 y.co k1 y.n y.g) post,67)::R))))
  case first=>
   refine qP [(gt,[Iv tx,Iv ty],26)] hM DN ?_;(clear hM;intro W hM);refine rD 0 ?_;refine rD 1 ?_;refine rD 2 ?_;refine rD 3 ?_;refine rD 4 ?_;refine dC 5 (fun K' hK'=> ?_);refine oM hM ?_ (hC:=jK hpre.out (by((repeat constructor)<;>fail)));refine rK hK' hM ?_;clear hK' K';refine dC 6 (fun K' hK'=> ?_);go_wp2_with(first|(refine qf (CC _) ?_;clear hM;intro W1 hM));refine rK hK' hM ?_;clear hK' K';refine rD 7 ?_;refine rD 8 ?_;refine rD 9 ?_;refine rD 10 ?_;refine rD 11 ?_;refine dC 12 (fun K' hK'=> ?_);refine oS hM ?_ (hc:=vO hpre.out (by((repeat constructor)<;>fail)));clear hM;intro W hM;refine rK hK' hM ?_;clear hK' K';refine qF DN ?_;go_wp2_with fail
   all_goals
    go_meet;exact hM
  case rest=>
  clear hM;have hM:=hcut;clear hcut;go_wp2_with(first|((with_reducible refine lX ?_);first|refine aL hM rfl rfl ?_ (hv:=uE hpre.out rfl)|refine aM hM rfl rfl ?_ (hC:=jK hpre.out (by((repeat constructor)<;>fail))))|((with_reducible refine sX ?_);refine aS hM rfl rfl rfl ?_ (hc:=vO hpre.out (by((repeat constructor)<;>fail)));clear hM;intro W hM)|(refine DU ?_;clear hM;intro g W hM))
  all_goals
   have e2:(t.map (·.1)).getD d=d2:=by rw[HN.out,Option.map_some,Option.getD_some,hd1.out,hd2.out]
   have e3:t.isSome=true:=by rw[HN.out,Option.isSome_some]
   have e4:((t.map (·.2)).getD y).cells=(DJ y.k tx ty y.bx y.b_y y.cx y.cy y.r y.f y.s c1 c1 k1 y.n y.g):=by rw[HN.out,Option.map_some,Option.getD_some];first|rfl|(rw[hyc.out];rfl)
   (go_ret;exact⟨by rw[e3];rfl,V2,B2,by rw[e2];exact hO2.out,by rw[e2,e4];exact qD (qD (qD (qD hM)))⟩)
  )
end Go.Proofs.YtcgpbnlhnafhjaaGreatDoor
