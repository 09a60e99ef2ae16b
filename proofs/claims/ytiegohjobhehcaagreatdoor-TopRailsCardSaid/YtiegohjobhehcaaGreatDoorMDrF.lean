/-
  The turn of a waypoint that is flown by, by boxes.
-/
import Derived.Test.YtiegohjobhehcaaGreatDoorMAroM
import Derived.Test.YtiegohjobhehcaaGreatDoorMBuildV
import Derived.Test.YtiegohjobhehcaaGreatDoorMDrM
import Derived.Test.YtiegohjobhehcaaGreatDoorMFlyM
import Derived.Test.YtiegohjobhehcaaGreatDoorMTurnM
namespace Go.Proofs.YtiegohjobhehcaaGreatDoor
open Go.RowKit
set_option linter.unusedVariables false
set_option linter.unusedSimpArgs false
theorem Nr{rad D lim:Int}(h:D=0∨54000000<(D.natAbs:Int)):ZG rad D lim=none:=if_pos h
theorem Fe{rad D lim l:Int}(h:¬(D=0∨54000000<(D.natAbs:Int)))(hl:jM rad D=l)(h2:lim<l)(h3:rad*lim/l<600):ZG rad D lim=none:=by unfold ZG;rw[if_neg h,hl,if_pos h2,if_pos h3]
theorem Ns{rad D lim l:Int}(h:¬(D=0∨54000000<(D.natAbs:Int)))(hl:jM rad D=l)(h2:lim<l)(h3:¬rad*lim/l<600):ZG rad D lim=some (rad*lim/l):=by unfold ZG;rw[if_neg h,hl,if_pos h2,if_neg h3]
theorem Ff{rad D lim l:Int}(h:¬(D=0∨54000000<(D.natAbs:Int)))(hl:jM rad D=l)(h2:¬lim<l):ZG rad D lim=some rad:=by unfold ZG;rw[if_neg h,hl,if_neg h2]
theorem Fg{rad D:Int}{d:Dw}{x y:Tk}(hD:zN (qO x.ax x.ay x.bx x.b_y).1 (qO y.ax y.ay y.bx y.b_y).1=D):aJ rad d x y=(match ZG rad D (aI x y)with
 |none=>none
 |some r=>if(bY x.ax x.ay x.bx x.b_y y.bx y.b_y r).2≠0∨(bY x.ax x.ay x.bx x.b_y y.bx y.b_y r).1.getD 9 0=0∨aI x y<(bY x.ax x.ay x.bx x.b_y y.bx y.b_y r).1.getD 9 0 then none else xN d x.n y.n (bY x.ax x.ay x.bx x.b_y y.bx y.b_y r).1):=by unfold aJ;rw[hD];rfl
theorem bv{e:Int}:∃v0 v1 v2 v3 v4 v5 v6 v7 v8 v9 e0:Int,([v0,v1,v2,v3,v4,v5,v6,v7,v8,v9],e0)=(yM,e):=⟨_,_,_,_,_,_,_,_,_,_,_,rfl⟩
theorem Fh(ax ay bx b_y cx cy r:Int):∃v0 v1 v2 v3 v4 v5 v6 v7 v8 v9 e0:Int,([v0,v1,v2,v3,v4,v5,v6,v7,v8,v9],e0)=bY ax ay bx b_y cx cy r:=by
 unfold bY;split
 ·exact bv
 split
 ·exact bv
 split
 ·exact bv
 unfold tT;split
 ·exact bv
 split
 ·exact bv
 split
 ·exact bv
 split
 ·exact bv
 split
 ·exact bv
 exact⟨_,_,_,_,_,_,_,_,_,_,_,rfl⟩
theorem mT{a:Int}(h:1≤a)(h2:a≤8000000):0≤a.tdiv 2∧a.tdiv 2≤4000000:=by
 rw[Int.tdiv_eq_ediv_of_nonneg qg];omega
set_option maxRecDepth 100000 in
set_option maxHeartbeats 8000000 in
theorem Nt{w0 w:World}{gd:Nat}{rad:Int}{V:Value}{d:Dw}{B R:List qZ}{m:Nat}(x y:Tk)(t:Option Dw)(ht:Hid (t=aJ rad d x y))(hr:1≤rad)(hr8:rad≤8000000)(hx:1≤x.len)(hx2:x.len≤8000000)(hy:1≤y.len)(hy2:y.len≤8000000)(hM:qF w0 w ((gd,bq V d rad,88)::(B++R)))(hO:Hid (tO V d.els B m))(hm:m≤90000:=by omega):
 Calls Tryz.prog 47 #[.pointer (some ⟨gd,0,none⟩),.agg x.cX.toArray,.agg y.cX.toArray] w fun e w'=>e= .returned (.bool t.isSome)∧∃V' B',tO V' (t.getD d).els B' (m+3)∧qF w0 w' ((gd,bq V' (t.getD d) rad,88)::(B'++R)):=by
 have CA:=fun W=>yF x.ax x.ay x.bx x.b_y W
 have CB:=fun W=>yF y.ax y.ay y.bx y.b_y W
 have ix:=Zb x.ax x.ay x.bx x.b_y;have iy:=Zb y.ax y.ay y.bx y.b_y;obtain⟨D,hD⟩:∃D,zN (qO x.ax x.ay x.bx x.b_y).1 (qO y.ax y.ay y.bx y.b_y).1=D:=⟨_,rfl⟩;have DF:=fun W=>JN _ _ ix iy W
 have db:=VZ (qO x.ax x.ay x.bx x.b_y).1 (qO y.ax y.ay y.bx y.b_y).1;rw[hD]at DF db;have HF:=hide (ht.out.trans (Fg hD));generalize(qO x.ax x.ay x.bx x.b_y).1=x1 at*;generalize(qO y.ax y.ay y.bx y.b_y).1=y1 at*;generalize(qO x.ax x.ay x.bx x.b_y).2=x2 at*;generalize(qO y.ax y.ay y.bx y.b_y).2=y2 at*;clear hD ht ix iy;have AB:=fun W=>kV D yq qg W
 obtain⟨A,hA⟩:∃A:Int,(D.natAbs:Int)=A:=⟨_,rfl⟩;rw[hA]at AB;have bA:0≤A∧A≤64800000:=qg;have lx:=mT hx hx2;have ly:=mT hy hy2;obtain⟨lim,hlim⟩:∃lim,aI x y=lim:=⟨_,rfl⟩;have hlim2:min (x.len.tdiv 2) (y.len.tdiv 2)=lim:=hlim;rw[hlim]at HF;have bl:0≤lim∧lim≤4000000:=by rw[←hlim2];omega
 clear hlim;go_enter Tryz.func47,Tryz.ntmps47;go_upto_region 0 with fail;refine qj ?_;go_cut [5,4] (fun s5 s4 wx=>∃gy gx:Nat,s5= .pointer (some ⟨gy,0,none⟩)∧s4= .pointer (some ⟨gx,0,none⟩)∧qF w0 wx ((gy,y.cX,91)::(gx,x.cX,91)::((gd,bq V d rad,88)::(B++R))))
 case first=>
  go_wp2_with(first|(refine qe ?_;clear hM;intro g W hM))
  all_goals
   go_meet;exact⟨_,_,rfl,rfl,hM⟩
 case rest=>
 clear hM;obtain⟨gy,gx,rfl,rfl,hM⟩:=hcut;go_upto_region 1 with(first|(refine qe ?_;clear hM;intro g W hM));refine qj ?_;go_cut [7] (fun s wx=>s=Iv lim∧qF w0 wx ((gy,y.cX,91)::(gx,x.cX,91)::((gd,bq V d rad,88)::(B++R))))
 case first=>
  go_wp2_with(first|(refine qe ?_;clear hM;intro g W hM))
  all_goals
   go_meet;exact⟨by first|rw[←hlim2]|(simp[←hlim2];done),hM⟩
 case rest=>
 clear hM;obtain⟨rfl,hM⟩:=hcut;clear hlim2;by_cases hbad:D=0∨54000000<A
 ·have hn:t=none:=by
   rw[HF.out,Nr (by rw[hA];exact hbad)]
  have hss:(D==0)=true∨((D==0)=false∧decide (54000000<A)=true):=by
   by_cases h:D=0
   ·exact .inl (by simpa using h)
   ·exact .inr ⟨by simpa using h,decide_eq_true qg⟩
  clear HF hbad hA;rcases hss with hss|⟨hss,hss2⟩
  all_goals
   go_wp2_with(first|(refine qe ?_;clear hM;intro g W hM)|(refine qt (CA _) ?_;clear hM;intro W1 hM)|(refine qt (CB _) ?_;clear hM;intro W1 hM)|refine qN (DF _) ?_|refine qN (AB _) ?_)
   all_goals
    (go_ret;exact⟨by rw[hn];rfl,V,B,by rw[hn];exact⟨hO.out.1,Nat.le_trans hO.out.2 qg⟩,by rw[hn];exact qC (qC hM)⟩)
 have h0:(D==0)=false:=by simp;omega
 have h54:¬54000000<A:=qg;have hnb:¬(D=0∨54000000<(D.natAbs:Int)):=qg;have HNB:=hide hnb;have hl:=dW (r:=rad) (d:=D) hr hr8 qg rfl;rw[hA]at hl;have MU:=fun W=>Qi rad (yJ (A/2)) (vT (A/2)) yq (by have:=Qc (A/2);unfold qz;omega) (by have:=Ja (A/2);unfold qz;omega) W
 have SN:=fun W=>Qg (A/2) yq W
 have CN:=fun W=>Zs (A/2) yq W
 rw[hl.1]at MU;have lb:=hl.2;clear hl hbad hnb;obtain⟨l,hle⟩:∃l,jM rad D=l:=⟨_,rfl⟩;rw[hle]at MU lb;generalize yJ (A/2)=sn at*;generalize vT (A/2)=cs at*;have HL:=hide hle;clear hle hA;go_upto_region 8 with(first|(refine qe ?_;clear hM;intro g W hM)|(refine qt (CA _) ?_;clear hM;intro W1 hM)|(refine qt (CB _) ?_;clear hM;intro W1 hM)|refine qN (DF _) ?_|refine qN (AB _) ?_);refine qj ?_;refine qA [(gd,bq V d rad,88)] hM qM ?_;(clear hM;intro W hM);refine rD 0 ?_;refine rD 1 ?_;refine rD 2 ?_;refine rD 3 ?_;refine rD 4 ?_;refine rD 6 ?_;refine dC 5 (fun K' hK'=> ?_);go_wp2_with(first|refine qN (SN _) ?_|refine qN (CN _) ?_|(refine Gr (MU _) ?_;clear hM;intro n1 hM));refine rK hK' hM ?_;clear hK' K';refine dC 7 (fun K' hK'=> ?_);go_wp2_with(first|refine qN (SN _) ?_|refine qN (CN _) ?_|(refine Gr (MU _) ?_;clear hM;intro n1 hM));refine rK hK' hM ?_;clear hK' K';refine dC 8 (fun K' hK'=> ?_);go_wp2_with(first|refine qN (SN _) ?_|refine qN (CN _) ?_|(refine Gr (MU _) ?_;clear hM;intro n1 hM));refine rK hK' hM ?_;clear hK' K';refine rD 9 ?_;refine rD 10 ?_;refine rD 11 ?_;refine rD 12 ?_;refine rD 13 ?_;refine qp qM ?_;go_upto_if 78 with(first|(refine qe ?_;clear hM;intro g W hM));refine qj ?_;go_cut [16] (fun s wx=>∃r,s=Iv r∧Hid (ZG rad D lim=some r)∧0≤r∧r≤8000000∧qF w0 wx ((gy,y.cX,91)::(gx,x.cX,91)::((gd,bq V d rad,88)::(B++R))))
 case first=>
  by_cases hlt:lim<l
  ·have hq:=SB (rad:=rad) (lim:=lim) (lead:=l) hr bl.1 hlt;have hp:0≤rad*lim∧rad*lim≤32000000000000:=⟨Int.mul_nonneg qg bl.1,Int.mul_le_mul (show rad≤8000000 by omega) (show lim≤4000000 by omega) bl.1 qG⟩;have w1:=wi (x:=rad*lim) qg qg;have e1:(rad*lim).tdiv l=rad*lim/l:=Int.tdiv_eq_ediv_of_nonneg hp.1;have l0:(l==0)=false:=by simp;omega
   have l1:l≠0:=qg;have l2:(l== -1)=false:=by simp;omega
   have l3:¬l= -1:=qg;have w2:=wi (x:=rad*lim/l) qg qg;by_cases h6:rad*lim/l<600
   ·have hn:t=none:=by rw[HF.out,Fe HNB.out HL.out hlt h6]
    have hne:(rad*lim/l !=rad)=true:=by simp;omega
    clear HF HNB HL;go_wp2_with(first|(refine qe ?_;clear hM;intro g W hM))
    all_goals
     (go_ret;exact⟨by rw[hn];rfl,V,B,by rw[hn];exact⟨hO.out.1,Nat.le_trans hO.out.2 qg⟩,by rw[hn];exact qC (qC hM)⟩)
   ·have hS:=hide (Ns HNB.out HL.out hlt h6);go_wp2_with(first|(refine qe ?_;clear hM;intro g W hM))
    all_goals
     go_meet;exact⟨rad*lim/l,by simp[e1,w2],hS,by omega,by omega,hM⟩
  ·have hS:=hide (Ff HNB.out HL.out hlt);go_wp2_with(first|(refine qe ?_;clear hM;intro g W hM))
   all_goals
    go_meet;exact⟨rad,rfl,hS,by omega,by omega,hM⟩
 case rest=>
 clear hM;obtain⟨r,rfl,HS,r0,r1,hM⟩:=hcut;obtain⟨v0,v1,v2,v3,v4,v5,v6,v7,v8,v9,e0,hR⟩:=Fh x.ax x.ay x.bx x.b_y y.bx y.b_y r;have FL:=fun W=>Ny x.ax x.ay x.bx x.b_y y.bx y.b_y r W v0 v1 v2 v3 v4 v5 v6 v7 v8 v9 e0 (hide hR)
 have HG:Hid (t=if e0≠0∨v9=0∨lim<v9 then none else xN d x.n y.n [v0,v1,v2,v3,v4,v5,v6,v7,v8,v9]):=hide (by
  rw[HF.out,HS.out];dsimp only;rw[←hR]
  rfl)
 have HB:Hid (e0=0→xz v0 v1 v2 v3 v4=true):=hide (fun h=>by subst h;exact Dc hR.symm);clear HF HS HNB HL hR;by_cases hbad:e0≠0∨v9=0∨lim<v9
 ·have hn:t=none:=by rw[HG.out,if_pos hbad]
  have hss:(e0 !=0)=true∨((e0 !=0)=false∧(v9==0)=true)∨((e0 !=0)=false∧(v9==0)=false∧decide (lim<v9)=true):=by
   by_cases h:e0=0
   ·by_cases h2:v9=0
    ·exact .inr (.inl ⟨by simpa using h,by simpa using h2⟩)
    ·exact .inr (.inr ⟨by simpa using h,by simpa using h2,decide_eq_true qg⟩)
   ·exact .inl (by simpa using h)
  clear HG hbad HB;rcases hss with hss|⟨hss,hss2⟩|⟨hss,hss2,hss3⟩
  all_goals
   go_wp2_with(first|(refine qe ?_;clear hM;intro g W hM)|(refine qt (FL _) ?_;clear hM;intro W1 hM))
   all_goals
    (go_ret;exact⟨by rw[hn];rfl,V,B,by rw[hn];exact⟨hO.out.1,Nat.le_trans hO.out.2 qg⟩,by rw[hn];exact qC (qC (qC hM))⟩)
 obtain rfl:e0=0:=qg;have h91:(v9==0)=false:=by simp;omega
 have h92:¬lim<v9:=qg;have HG2:Hid (t=xN d x.n y.n [v0,v1,v2,v3,v4,v5,v6,v7,v8,v9]):=hide (by rw[HG.out,if_neg hbad]);have hB:=(JW _ _ _ _ _).1 (HB.out rfl);obtain⟨hB1,hB2,hB3,hB4,hB5,hB6,hB7⟩:=hB;have hh:=PW v4;clear HG HB hbad hB1;go_upto_region 19 with(first|(refine qe ?_;clear hM;intro g W hM)|(refine qt (FL _) ?_;clear hM;intro W1 hM));refine qj ?_;obtain⟨gf,rfl⟩:=uC hM;go_cut [18,19] (fun s18 s19 wx=>∃g18 g19:Nat,s18= .pointer (some ⟨g18,0,none⟩)∧s19= .pointer (some ⟨g19,0,none⟩)∧qF w0 wx ((g19,[Iv v0,Iv v1,Iv v2,Iv v3,Iv v4],51)::(g18,[Iv v0,Iv v1,Iv v2,Iv v3,Iv v4],51)::((gf,[Iv v0,Iv v1,Iv v2,Iv v3,Iv v4,Iv v5,Iv v6,Iv v7,Iv v8,Iv v9],189)::((gy,y.cX,91)::(gx,x.cX,91)::((gd,bq V d rad,88)::(B++R))))))
 case first=>
  refine qA [(gf,[Iv v0,Iv v1,Iv v2,Iv v3,Iv v4,Iv v5,Iv v6,Iv v7,Iv v8,Iv v9],189)] hM qM ?_;(clear hM;intro W hM);refine rD 0 ?_;refine rD 1 ?_;refine rD 2 ?_;refine rD 3 ?_;refine dT 4 5 (fun K' hK'=> ?_) (fun K' hK'=> ?_)
  ·
   refine oN hM ?_;clear hM;intro g18 W hM;refine rK hK' hM ?_;clear hK' K';refine dC 5 (fun K' hK'=> ?_);refine oN hM ?_;clear hM;intro g19 W hM;refine rK hK' hM ?_;clear hK' K';refine dC 6 (fun K' hK'=> ?_);refine oS hM ?_;clear hM;intro W hM;refine rK hK' hM ?_;clear hK' K';refine dC 7 (fun K' hK'=> ?_);refine oS hM ?_;clear hM;intro W hM;refine rK hK' hM ?_;clear hK' K';refine qp qM ?_;go_wp2_with fail
   all_goals
    go_meet;exact⟨_,_,rfl,rfl,by first|exact hM|exact qW hM (List.Perm.swap _ _ _)⟩
  ·
   refine oN hM ?_;clear hM;intro g19 W hM;refine rK hK' hM ?_;clear hK' K';refine dC 4 (fun K' hK'=> ?_);refine oN hM ?_;clear hM;intro g18 W hM;refine rK hK' hM ?_;clear hK' K';refine dC 6 (fun K' hK'=> ?_);refine oS hM ?_;clear hM;intro W hM;refine rK hK' hM ?_;clear hK' K';refine dC 7 (fun K' hK'=> ?_);refine oS hM ?_;clear hM;intro W hM;refine rK hK' hM ?_;clear hK' K';refine qp qM ?_;go_wp2_with fail
   all_goals
    go_meet;exact⟨_,_,rfl,rfl,by first|exact hM|exact qW hM (List.Perm.swap _ _ _)⟩
 case rest=>
 clear hM;obtain⟨g18,g19,rfl,rfl,hM⟩:=hcut;have w3:=wi (x:=v4-v4.tdiv 2) qg qg;have w4:=wi (x:=v3+v4.tdiv 2) qg qg;have NM:=fun W=>yS (v3+v4.tdiv 2) yq W
 have TL:=fun W=>tH v0 v1 v2 v3 (v4.tdiv 2) W
 obtain⟨X,Y,C,E,hat⟩:∃X Y C E,jJ v0 v1 v2 v3 (v4.tdiv 2) (zq v0 v1 v2 v3 (v4.tdiv 2))=(X,Y,C,E):=⟨_,_,_,_,rfl⟩;have AT:=fun W=>tI v0 v1 v2 v3 (v4.tdiv 2) (zq v0 v1 v2 v3 (v4.tdiv 2)) W _ hat.symm
 have HG3:Hid (t=if E≠0 then none else some (uV (uV (yX d v5 v6 x.n) v0 v1 v2 v3 (v4.tdiv 2) X Y x.n) v0 v1 v2 (norm (v3+v4.tdiv 2)) (v4-v4.tdiv 2) v7 v8 y.n)):=hide (by
  rw[HG2.out];unfold xN;dsimp only
  rw[hat])
 clear HG2 hat hh;generalize zq v0 v1 v2 v3 (v4.tdiv 2)=n1 at*;go_upto_region 23 with(first|(refine qe ?_;clear hM;intro g W hM)|refine qN (NM _) ?_);refine qj ?_;generalize norm (v3+v4.tdiv 2)=f2 at*;generalize v4-v4.tdiv 2=s2 at*;generalize v4.tdiv 2=s1 at*;clear w3 w4 NM;go_cut [20,15] (fun s20 s15 wx=>∃g20:Nat,s20= .pointer (some ⟨g20,0,none⟩)∧s15=Iv E∧qF w0 wx ((g20,[Iv X,Iv Y],26)::(g19,[Iv v0,Iv v1,Iv v2,Iv f2,Iv s2],51)::(g18,[Iv v0,Iv v1,Iv v2,Iv v3,Iv s1],51)::((gf,[Iv v0,Iv v1,Iv v2,Iv v3,Iv v4,Iv v5,Iv v6,Iv v7,Iv v8,Iv v9],189)::((gy,y.cX,91)::(gx,x.cX,91)::((gd,bq V d rad,88)::(B++R))))))
 case first=>
  refine qA [(g18,[Iv v0,Iv v1,Iv v2,Iv v3,Iv s1],51)] hM qM ?_;(clear hM;intro W hM);refine rD 0 ?_;refine rD 1 ?_;refine dT 2 8 (fun K' hK'=> ?_) (fun K' hK'=> ?_)
  ·
   go_wp2_with(first|(refine qt (TL _) ?_;clear hM;intro W1 hM)|(refine qt (AT _) ?_;clear hM;intro W1 hM));refine rK hK' hM ?_;clear hK' K';refine dT 3 8 (fun K' hK'=> ?_) (fun K' hK'=> ?_)
   ·
    go_wp2_with(first|(refine qt (TL _) ?_;clear hM;intro W1 hM)|(refine qt (AT _) ?_;clear hM;intro W1 hM));refine rK hK' hM ?_;clear hK' K';refine rD 4 ?_;refine rD 5 ?_;refine rD 6 ?_;refine rD 7 ?_;refine dC 8 (fun K' hK'=> ?_);refine oN hM ?_;clear hM;intro g20 W hM;refine rK hK' hM ?_;clear hK' K';refine dC 9 (fun K' hK'=> ?_);refine oS hM ?_;clear hM;intro W hM;refine rK hK' hM ?_;clear hK' K';refine rD 10 ?_;refine rD 11 ?_;refine qp qM ?_;go_wp2_with fail
    all_goals
     go_meet;exact⟨_,rfl,rfl,by first|exact hM|exact qW hM (List.Perm.swap _ _ _)⟩
   ·
    refine oN hM ?_;clear hM;intro g20 W hM;refine rK hK' hM ?_;clear hK' K';refine dC 3 (fun K' hK'=> ?_);go_wp2_with(first|(refine qt (TL _) ?_;clear hM;intro W1 hM)|(refine qt (AT _) ?_;clear hM;intro W1 hM));refine rK hK' hM ?_;clear hK' K';refine rD 4 ?_;refine rD 5 ?_;refine rD 6 ?_;refine rD 7 ?_;refine dC 9 (fun K' hK'=> ?_);refine oS hM ?_;clear hM;intro W hM;refine rK hK' hM ?_;clear hK' K';refine rD 10 ?_;refine rD 11 ?_;refine qp qM ?_;go_wp2_with fail
    all_goals
     go_meet;exact⟨_,rfl,rfl,by first|exact hM|exact qW hM (List.Perm.swap _ _ _)⟩
  ·
   refine oN hM ?_;clear hM;intro g20 W hM;refine rK hK' hM ?_;clear hK' K';refine dC 2 (fun K' hK'=> ?_);go_wp2_with(first|(refine qt (TL _) ?_;clear hM;intro W1 hM)|(refine qt (AT _) ?_;clear hM;intro W1 hM));refine rK hK' hM ?_;clear hK' K';refine dC 3 (fun K' hK'=> ?_);go_wp2_with(first|(refine qt (TL _) ?_;clear hM;intro W1 hM)|(refine qt (AT _) ?_;clear hM;intro W1 hM));refine rK hK' hM ?_;clear hK' K';refine rD 4 ?_;refine rD 5 ?_;refine rD 6 ?_;refine rD 7 ?_;refine dC 9 (fun K' hK'=> ?_);refine oS hM ?_;clear hM;intro W hM;refine rK hK' hM ?_;clear hK' K';refine rD 10 ?_;refine rD 11 ?_;refine qp qM ?_;go_wp2_with fail
   all_goals
    go_meet;exact⟨_,rfl,rfl,by first|exact hM|exact qW hM (List.Perm.swap _ _ _)⟩
 case rest=>
 clear hM;obtain⟨g20,rfl,rfl,hM⟩:=hcut;by_cases hE:E=0;rotate_left 1
 ·have hn:t=none:=by rw[HG3.out,if_pos hE]
  have hE':(E !=0)=true:=by simpa using hE
  clear HG3 hE;go_wp2_with(first|(refine qe ?_;clear hM;intro g W hM))
  all_goals
   (go_ret;exact⟨by rw[hn];rfl,V,B,by rw[hn];exact⟨hO.out.1,Nat.le_trans hO.out.2 qg⟩,by rw[hn];exact qC (qC (qC (qC (qC (qC hM)))))⟩)
 subst hE;have hn:t=some (uV (uV (yX d v5 v6 x.n) v0 v1 v2 v3 s1 X Y x.n) v0 v1 v2 f2 s2 v7 v8 y.n):=by rw[HG3.out,if_neg jL]
 have HN:=hide hn;clear HG3 hn;go_wp2_with(first|(refine qe ?_;clear hM;intro g W hM)|(go_at_call 13;(with_reducible refine cD hM (fun R' hM'=>ZT v5 v6 x.n hM' hO) ?_);clear hM hO;intro d1 V1 B1 W1 hd1 hO1 hM;simp only[List.cons_append,List.nil_append]at hM)|(go_at_call 14;(with_reducible refine cD hM (fun R' hM'=>mU v0 v1 v2 v3 s1 X Y x.n hM' hO1) ?_);clear hM hO1;intro d2 V2 B2 W2 hd2 hO2 hM;simp only[List.cons_append,List.nil_append]at hM)|(go_at_call 14;(with_reducible refine cD hM (fun R' hM'=>mU v0 v1 v2 f2 s2 v7 v8 y.n hM' hO2) ?_);clear hM hO2;intro d3 V3 B3 W3 hd3 hO3 hM;simp only[List.cons_append,List.nil_append]at hM))
 all_goals
  have e2:t.getD d=d3:=by rw[HN.out,Option.getD_some,hd1.out,hd2.out,hd3.out]
  have e3:t.isSome=true:=by rw[HN.out,Option.isSome_some]
  (go_ret;exact⟨by rw[e3];rfl,V3,B3,by rw[e2];exact hO3.out,by rw[e2];exact qC (qC (qC (qC (qC (qC hM)))))⟩)
theorem Nu{rad D:Int}{d:Dw}{x y:Tk}(hD:zN x.co y.ci=D)(h:D=0):Vv rad d x y=none:=by unfold Vv;dsimp only;rw[hD,if_pos h]
theorem Fj{rad D kx ky e:Int}{d:Dw}{x y:Tk}(hD:zN x.co y.ci=D)(h:¬D=0)(hr:zn x.bx x.b_y (YI x.co D) rad=(kx,ky,e))(he:e≠0):Vv rad d x y=none:=by unfold Vv;dsimp only;rw[hD,if_neg h,hr,if_pos he]
theorem Fk{rad D kx ky tx ty e:Int}{d:Dw}{x y:Tk}{b:Bool}(hD:zN x.co y.ci=D)(hb:b=decide (0<D))(h:¬D=0)(hr:zn x.bx x.b_y (YI x.co D) rad=(kx,ky,0))(ht:QX kx ky rad y.bx y.b_y b=(tx,ty,e))(he:e≠0):Vv rad d x y=none:=by
 subst hb;unfold Vv;dsimp only;rw[hD,if_neg h,hr,if_neg jL,ht,if_pos he]
theorem Fl{rad D kx ky tx ty v0 v1 v2 v3 v4 e:Int}{d:Dw}{x y:Tk}{b:Bool}(hD:zN x.co y.ci=D)(hb:b=decide (0<D))(h:¬D=0)(hr:zn x.bx x.b_y (YI x.co D) rad=(kx,ky,0))(ht:QX kx ky rad y.bx y.b_y b=(tx,ty,0))(ha:yN x.bx x.b_y kx ky tx ty b=([v0,v1,v2,v3,v4],e)):
 Vv rad d x y=if e≠0 then none else some (uV (yX d x.bx x.b_y x.n) v0 v1 v2 v3 v4 tx ty y.n,if tx=y.bx∧ty=y.b_y then{y with ax:=tx,ay:=ty,co:=y.ci,len:=0}else{y with ax:=tx,ay:=ty,ci:=(qO tx ty y.bx y.b_y).1,co:=(qO tx ty y.bx y.b_y).1,len:=zk tx ty y.bx y.b_y}):=by
 subst hb;unfold Vv;dsimp only;rw[hD,if_neg h,hr,if_neg jL,ht,if_neg jL,ha]
theorem eF(ax ay cx cy bx b_y:Int)(right:Bool):∃v0 v1 v2 v3 v4 e0:Int,yN ax ay cx cy bx b_y right=([v0,v1,v2,v3,v4],e0):=by
 unfold yN;split
 ·exact⟨_,_,_,_,_,_,rfl⟩
 split
 ·exact⟨_,_,_,_,_,_,rfl⟩
 exact⟨_,_,_,_,_,_,rfl⟩
set_option maxRecDepth 100000 in
set_option maxHeartbeats 8000000 in
theorem fE{w0 w:World}{gd:Nat}{rad:Int}{V:Value}{d:Dw}{B R:List qZ}{m gT o:Nat}{pre post:List Value}(x y:Tk)(t:Option (Dw×Tk))(ht:Hid (t=Vv rad d x y))(hr:1≤rad)(hr8:rad≤8000000)(hx: -129600000≤x.co∧x.co≤259200000)(hy: -129600000≤y.ci∧y.ci≤259200000)(hpre:Hid (pre.length=o))
 (hM:qF w0 w ((gd,bq V d rad,88)::(B++((gT,pre++mid y.cX post,91)::R)))) (hO:Hid (tO V d.els B m)) (hm:m≤90000:=by omega):
 Calls Tryz.prog 46 #[.pointer (some ⟨gd,0,none⟩),.agg x.cX.toArray,.pointer (some ⟨gT,o,none⟩)] w fun e w'=>e= .returned (.bool t.isSome)∧∃V' B',tO V' ((t.map (·.1)).getD d).els B' (m+2)∧qF w0 w' ((gd,bq V' ((t.map (·.1)).getD d) rad,88)::(B'++((gT,pre++mid ((t.map (·.2)).getD y).cells post,91)::R))):=by
 have db:=VZ x.co y.ci;have DF:=fun W=>JN x.co y.ci yq yq W
 obtain⟨D,hD⟩:∃D,zN x.co y.ci=D:=⟨_,rfl⟩;rw[hD]at DF db;have HD:=hide hD;clear hD;go_enter Tryz.func46,Tryz.ntmps46;go_upto_region 0 with fail;refine qj ?_;go_cut [4] (fun s4 wx=>∃gx:Nat,s4= .pointer (some ⟨gx,0,none⟩)∧qF w0 wx ((gx,x.cX,91)::((gd,bq V d rad,88)::(B++((gT,pre++mid y.cX post,91)::R)))))
 case first=>
  go_wp2_with(first|(refine qe ?_;clear hM;intro g W hM))
  all_goals
   go_meet;exact⟨_,rfl,hM⟩
 case rest=>
 clear hM;obtain⟨gx,rfl,hM⟩:=hcut;go_upto_region 1 with(first|(refine qe ?_;clear hM;intro g W hM));refine qj ?_;refine qA [(gx,x.cX,91),(gT,pre++mid y.cX post,91)] hM qM ?_;(clear hM;intro W hM);refine rD 0 ?_;refine rD 1 ?_;refine rD 2 ?_;refine rD 3 ?_;refine rD 4 ?_;refine dL 5 hM ?_ (hv:=Zy hpre.out rfl);refine qj ?_;refine dC 6 (fun K' hK'=> ?_);go_wp2_with(first|refine qN (DF _) ?_);refine rK hK' hM ?_;clear hK' K';refine rD 7 ?_;refine qp qM ?_;by_cases h0:D=0
 ·have hn:t=none:=ht.out.trans (Nu HD.out h0);have hz:(D==0)=true:=by simpa using h0
  clear h0 ht;go_wp2_with(first|(refine qe ?_;clear hM;intro g W hM))
  all_goals
   (go_ret;(try rw[hn]);exact⟨rfl,V,B,⟨hO.out.1,Nat.le_trans hO.out.2 qg⟩,qC (hM)⟩)
 have hz:(D==0)=false:=by simpa using h0
 go_upto_if 24 with(first|(refine qe ?_;clear hM;intro g W hM));refine qj ?_;go_cut [8,9] (fun s8 s9 wx=>∃q b:Int,∃right:Bool,s8= .int .u8 b∧s9=Iv q∧(q=32400000∨q= -32400000)∧Hid (YI x.co D=x.co+q)∧Hid (right=decide (0<D))∧(b=1∧right=false∨b=2∧right=true)∧qF w0 wx ((gx,x.cX,91)::((gd,bq V d rad,88)::(B++((gT,pre++mid y.cX post,91)::R)))))
 case first=>
  by_cases hlt:D<0
  ·have h1:¬0<D:=qg;go_wp2_with(first|(refine qe ?_;clear hM;intro g W hM))
   all_goals
    go_meet;exact⟨-32400000,1,false,rfl,rfl,.inr rfl,hide (by unfold YI;rw[if_neg qg]),hide (decide_eq_false qg).symm,.inl ⟨rfl,rfl⟩,hM⟩
  ·have h1:0<D:=qg;go_wp2_with(first|(refine qe ?_;clear hM;intro g W hM))
   all_goals
    go_meet;exact⟨32400000,2,true,rfl,rfl,.inl rfl,hide (by unfold YI;rw[if_pos qg]),hide (decide_eq_true qg).symm,.inr ⟨rfl,rfl⟩,hM⟩
 case rest=>
 clear hM;obtain⟨q,b,right,rfl,rfl,qb,HF,HB,hbr,hM⟩:=hcut;have w1:=IntWalk.i64_in (x.co+q) qg;obtain⟨kx,ky,e1,hr1⟩:∃kx ky e1,zn x.bx x.b_y (x.co+q) rad=(kx,ky,e1):=⟨_,_,_,rfl⟩;have RY:=fun W=>jY x.bx x.b_y (x.co+q) rad yq yq W _ hr1.symm
 have HR1:=hide (show zn x.bx x.b_y (YI x.co D) rad=(kx,ky,e1) by rw[HF.out];exact hr1);clear hr1;go_upto_region 7 with(first|(refine qe ?_;clear hM;intro g W hM));refine qj ?_;go_cut [10,11] (fun s10 s11 wx=>∃gc:Nat,s10= .pointer (some ⟨gc,0,none⟩)∧s11=Iv e1∧qF w0 wx ((gc,[Iv kx,Iv ky],26)::((gx,x.cX,91)::((gd,bq V d rad,88)::(B++((gT,pre++mid y.cX post,91)::R))))))
 case first=>
  refine qA [(gx,x.cX,91),(gd,bq V d rad,88)] hM qM ?_;(clear hM;intro W hM);refine rD 0 ?_;refine rD 1 ?_;refine rD 2 ?_;refine rD 3 ?_;refine rD 4 ?_;refine rD 5 ?_;refine rD 6 ?_;refine rD 7 ?_;refine rD 8 ?_;refine rD 9 ?_;refine dT 10 14 (fun K' hK'=> ?_) (fun K' hK'=> ?_)
  ·
   go_wp2_with(first|(refine qt (RY _) ?_;clear hM;intro W1 hM));refine rK hK' hM ?_;clear hK' K';refine rD 11 ?_;refine rD 12 ?_;refine rD 13 ?_;refine dC 14 (fun K' hK'=> ?_);refine oN hM ?_;clear hM;intro g10 W hM;refine rK hK' hM ?_;clear hK' K';refine dC 15 (fun K' hK'=> ?_);refine oS hM ?_;clear hM;intro W hM;refine rK hK' hM ?_;clear hK' K';refine rD 16 ?_;refine qp qM ?_;go_wp2_with fail
   all_goals
    go_meet;exact⟨_,rfl,rfl,hM⟩
  ·
   refine oN hM ?_;clear hM;intro g10 W hM;refine rK hK' hM ?_;clear hK' K';refine dC 10 (fun K' hK'=> ?_);go_wp2_with(first|(refine qt (RY _) ?_;clear hM;intro W1 hM));refine rK hK' hM ?_;clear hK' K';refine rD 11 ?_;refine rD 12 ?_;refine rD 13 ?_;refine dC 15 (fun K' hK'=> ?_);refine oS hM ?_;clear hM;intro W hM;refine rK hK' hM ?_;clear hK' K';refine rD 16 ?_;refine qp qM ?_;go_wp2_with fail
   all_goals
    go_meet;exact⟨_,rfl,rfl,hM⟩
 case rest=>
 clear hM;obtain⟨gc,rfl,rfl,hM⟩:=hcut;by_cases he1:e1=0;rotate_left 1
 ·have hn:t=none:=ht.out.trans (Fj HD.out h0 HR1.out he1);have he1':(e1 !=0)=true:=by simpa using he1
  clear he1 ht;go_wp2_with(first|(refine qe ?_;clear hM;intro g W hM))
  all_goals
   (go_ret;(try rw[hn]);exact⟨rfl,V,B,⟨hO.out.1,Nat.le_trans hO.out.2 qg⟩,qC (qC (hM))⟩)
 subst he1;obtain⟨tx,ty,e2,ht2⟩:∃tx ty e2,QX kx ky rad y.bx y.b_y right=(tx,ty,e2):=⟨_,_,_,rfl⟩;have TA:=fun W=>Ey kx ky rad y.bx y.b_y b right hbr W tx ty e2 (hide ht2.symm)
 have HT2:=hide ht2;clear ht2 RY;go_upto_region 10 with(first|(refine qe ?_;clear hM;intro g W hM));refine qj ?_;go_cut [12,11] (fun s12 s11 wx=>∃gt:Nat,s12= .pointer (some ⟨gt,0,none⟩)∧s11=Iv e2∧qF w0 wx ((gt,[Iv tx,Iv ty],26)::((gc,[Iv kx,Iv ky],26)::((gx,x.cX,91)::((gd,bq V d rad,88)::(B++((gT,pre++mid y.cX post,91)::R)))))))
 case first=>
  refine qA [(gc,[Iv kx,Iv ky],26),(gd,bq V d rad,88),(gT,pre++mid y.cX post,91)] hM qM ?_;(clear hM;intro W hM);refine rD 0 ?_;refine rD 1 ?_;refine rD 2 ?_;refine rD 3 ?_;refine rD 4 ?_;refine rD 5 ?_;refine rD 6 ?_;refine rD 7 ?_;refine rD 8 ?_;refine dM 9 hM ?_ (hC:=kB hpre.out (by((repeat constructor)<;>fail)));refine qj ?_;refine dT 10 14 (fun K' hK'=> ?_) (fun K' hK'=> ?_)
  ·
   go_wp2_with(first|(refine qt (TA _) ?_;clear hM;intro W1 hM));refine rK hK' hM ?_;clear hK' K';refine rD 11 ?_;refine rD 12 ?_;refine rD 13 ?_;refine dC 14 (fun K' hK'=> ?_);refine oN hM ?_;clear hM;intro g12 W hM;refine rK hK' hM ?_;clear hK' K';refine dC 15 (fun K' hK'=> ?_);refine oS hM ?_;clear hM;intro W hM;refine rK hK' hM ?_;clear hK' K';refine rD 16 ?_;refine qp qM ?_;go_wp2_with fail
   all_goals
    go_meet;exact⟨_,rfl,rfl,hM⟩
  ·
   refine oN hM ?_;clear hM;intro g12 W hM;refine rK hK' hM ?_;clear hK' K';refine dC 10 (fun K' hK'=> ?_);go_wp2_with(first|(refine qt (TA _) ?_;clear hM;intro W1 hM));refine rK hK' hM ?_;clear hK' K';refine rD 11 ?_;refine rD 12 ?_;refine rD 13 ?_;refine dC 15 (fun K' hK'=> ?_);refine oS hM ?_;clear hM;intro W hM;refine rK hK' hM ?_;clear hK' K';refine rD 16 ?_;refine qp qM ?_;go_wp2_with fail
   all_goals
    go_meet;exact⟨_,rfl,rfl,hM⟩
 case rest=>
 clear hM;obtain⟨gt,rfl,rfl,hM⟩:=hcut;by_cases he2:e2=0;rotate_left 1
 ·have hn:t=none:=ht.out.trans (Fk HD.out HB.out h0 HR1.out HT2.out he2);have he2':(e2 !=0)=true:=by simpa using he2
  clear he2 ht;go_wp2_with(first|(refine qe ?_;clear hM;intro g W hM))
  all_goals
   (go_ret;(try rw[hn]);exact⟨rfl,V,B,⟨hO.out.1,Nat.le_trans hO.out.2 qg⟩,qC (qC (qC (hM)))⟩)
 subst he2;obtain⟨v0,v1,v2,v3,v4,e3,ha3⟩:=eF x.bx x.b_y kx ky tx ty right;have AO:=fun W=>Vu x.bx x.b_y kx ky tx ty b right hbr W v0 v1 v2 v3 v4 e3 ha3.symm
 have HT:=hide (ht.out.trans (Fl HD.out HB.out h0 HR1.out HT2.out ha3));clear ha3 ht HD HB HR1 HT2 TA hbr HF;by_cases he3:e3=0;rotate_left 1
 ·have hn:t=none:=by rw[HT.out,if_pos he3]
  have he3':(e3 !=0)=true:=by simpa using he3
  clear he3 HT;go_wp2_with(first|(refine qe ?_;clear hM;intro g W hM)|(refine qt (AO _) ?_;clear hM;intro W1 hM))
  all_goals
   (go_ret;(try rw[hn]);exact⟨rfl,V,B,⟨hO.out.1,Nat.le_trans hO.out.2 qg⟩,qC (qC (qC (qC (hM))))⟩)
 subst he3;have HT3:=hide (HT.out.trans (if_neg jL));clear HT;go_upto_region 17 with(first|(refine qe ?_;clear hM;intro g W hM)|(refine qt (AO _) ?_;clear hM;intro W1 hM)|(go_at_call 13;(with_reducible refine cD hM (fun R' hM'=>ZT x.bx x.b_y x.n hM' hO) ?_);clear hM hO;intro d1 V1 B1 W1 hd1 hO1 hM;simp only[List.cons_append,List.nil_append]at hM));refine qj ?_;obtain⟨ga,rfl⟩:=uC hM;refine qA [(ga,[Iv v0,Iv v1,Iv v2,Iv v3,Iv v4],51),(gt,[Iv tx,Iv ty],26),(gT,pre++mid y.cX post,91)] hM qM ?_;(clear hM;intro W hM);refine rD 0 ?_;refine rD 1 ?_;refine rD 2 ?_;refine rD 3 ?_;refine rD 4 ?_;refine rD 5 ?_;refine dL 6 hM ?_ (hv:=Zy hpre.out rfl);refine qj ?_;refine dC 7 (fun K' hK'=> ?_);go_wp2_with(first|(go_at_call 14;(with_reducible refine cD hM (fun R' hM'=>mU v0 v1 v2 v3 v4 tx ty y.n hM' hO1) ?_);clear hM hO1;intro d2 V2 B2 W2 hd2 hO2 hM;simp only[List.cons_append,List.nil_append]at hM));refine rK hK' hM ?_;clear hK' K';refine qp qM ?_;go_upto_region 18 with(first|(refine qe ?_;clear hM;intro g W hM));refine qj ?_;refine qA [(gt,[Iv tx,Iv ty],26)] hM qM ?_;(clear hM;intro W hM);refine rD 0 ?_;refine rD 1 ?_;refine rD 2 ?_;refine rD 3 ?_;refine rD 4 ?_;refine rD 5 ?_;refine rD 6 ?_;refine dC 7 (fun K' hK'=> ?_);refine oL hM ?_ (hv:=Zy hpre.out rfl);refine rK hK' hM ?_;clear hK' K';refine rD 8 ?_;refine rD 9 ?_;refine dC 10 (fun K' hK'=> ?_);refine oS hM ?_ (hc:=uF hpre.out (by((repeat constructor)<;>fail)));clear hM;intro W hM;refine rK hK' hM ?_;clear hK' K';refine rD 11 ?_;refine rD 12 ?_;refine dC 13 (fun K' hK'=> ?_);refine oS hM ?_ (hc:=uF hpre.out (by((repeat constructor)<;>fail)));clear hM;intro W hM;refine rK hK' hM ?_;clear hK' K';refine rD 14 ?_;refine rD 15 ?_;refine dC 16 (fun K' hK'=> ?_);refine oS hM ?_ (hc:=uF hpre.out (by((repeat constructor)<;>fail)));clear hM;intro W hM;refine rK hK' hM ?_;clear hK' K';refine qp qM ?_;go_upto_region 19 with(first|(refine qe ?_;clear hM;intro g W hM));refine qj ?_;by_cases hq:tx=y.bx∧ty=y.b_y
 ·have hq1:=hq.1;have hq2:=hq.2;refine qA [(gt,[Iv tx,Iv ty],26),(gT,pre++mid (tX y.k tx ty y.bx y.b_y y.cx y.cy y.r y.f y.s y.ci y.ci 0 y.n y.g) post,91)] hM qM ?_;(clear hM;intro W hM);refine rD 0 ?_;refine rD 1 ?_;refine rD 2 ?_;refine rD 3 ?_;refine dM 4 hM ?_ (hC:=kB hpre.out (by((repeat constructor)<;>fail)));refine qj ?_;refine dP 5 (v:= .bool false) hM ?_ (hv:=by(intro W0;go_simp;(try rw[if_pos hq1,if_pos hq2])));refine qj ?_;refine qp qM ?_;have HN:=hide (show t=some (uV (yX d x.bx x.b_y x.n) v0 v1 v2 v3 v4 tx ty y.n,{y with ax:=tx,ay:=ty,co:=y.ci,len:=0}) by rw[HT3.out,if_pos hq]);go_wp2_with(first|(refine qe ?_;clear hM;intro g W hM))
  all_goals
   have e2:(t.map (·.1)).getD d=d2:=by rw[HN.out,Option.map_some,Option.getD_some,hd1.out,hd2.out]
   have e3:t.isSome=true:=by rw[HN.out,Option.isSome_some]
   have e4:((t.map (·.2)).getD y).cells=(tX y.k tx ty y.bx y.b_y y.cx y.cy y.r y.f y.s y.ci y.ci 0 y.n y.g):=by rw[HN.out,Option.map_some,Option.getD_some];rfl
   (go_ret;exact⟨by rw[e3];rfl,V2,B2,by rw[e2];exact hO2.out,by rw[e2,e4];exact qC (qC (qC (qC hM)))⟩)
 ·(
  refine qA [(gt,[Iv tx,Iv ty],26),(gT,pre++mid (tX y.k tx ty y.bx y.b_y y.cx y.cy y.r y.f y.s y.ci y.ci 0 y.n y.g) post,91)] hM qM ?_;(clear hM;intro W hM);refine rD 0 ?_;refine rD 1 ?_;refine rD 2 ?_;refine rD 3 ?_;refine dM 4 hM ?_ (hC:=kB hpre.out (by((repeat constructor)<;>fail)));refine qj ?_;refine dP 5 (v:= .bool true) hM ?_ (hv:=by(intro W0;go_simp;exact fun h1 h2=>hq ⟨h1,h2⟩));refine qj ?_;refine qp qM ?_;have CC:=fun W=>yF tx ty y.bx y.b_y W
  have DC:=fun W=>yG tx ty y.bx y.b_y W
  obtain⟨c1,hc1⟩:∃c1,(qO tx ty y.bx y.b_y).1=c1:=⟨_,rfl⟩;obtain⟨k1,hk1⟩:∃k1,zk tx ty y.bx y.b_y=k1:=⟨_,rfl⟩;have HN:=hide (show t=some (uV (yX d x.bx x.b_y x.n) v0 v1 v2 v3 v4 tx ty y.n,{y with ax:=tx,ay:=ty,ci:=c1,co:=c1,len:=k1}) by rw[HT3.out,if_neg hq,hc1,hk1]);rw[hc1]at CC;rw[hk1]at DC;clear hc1 hk1 HT3 hq;go_upto_region 20 with(first|(refine qe ?_;clear hM;intro g W hM));refine qj ?_;refine qA [(gt,[Iv tx,Iv ty],26)] hM qM ?_;(clear hM;intro W hM);refine rD 0 ?_;refine rD 1 ?_;refine rD 2 ?_;refine rD 3 ?_;refine rD 4 ?_;refine dC 5 (fun K' hK'=> ?_);refine oM hM ?_ (hC:=kB hpre.out (by((repeat constructor)<;>fail)));refine rK hK' hM ?_;clear hK' K';refine dC 6 (fun K' hK'=> ?_);go_wp2_with(first|(refine qt (CC _) ?_;clear hM;intro W1 hM));refine rK hK' hM ?_;clear hK' K';refine rD 7 ?_;refine rD 8 ?_;refine rD 9 ?_;refine rD 10 ?_;refine rD 11 ?_;refine dC 12 (fun K' hK'=> ?_);refine oS hM ?_ (hc:=uF hpre.out (by((repeat constructor)<;>fail)));clear hM;intro W hM;refine rK hK' hM ?_;clear hK' K';refine qp qM ?_;go_upto_region 21 with(first|(refine qe ?_;clear hM;intro g W hM));refine qj ?_;refine qA [(gt,[Iv tx,Iv ty],26)] hM qM ?_;(clear hM;intro W hM);refine rD 0 ?_;refine rD 1 ?_;refine rD 2 ?_;refine rD 3 ?_;refine rD 4 ?_;refine rD 6 ?_;refine rD 7 ?_;refine rD 8 ?_;refine rD 9 ?_;refine dT 5 10 (fun K' hK'=> ?_) (fun K' hK'=> ?_)
  ·
   refine oL hM ?_ (hv:=Zy hpre.out rfl);refine rK hK' hM ?_;clear hK' K';refine dC 10 (fun K' hK'=> ?_);refine oM hM ?_ (hC:=kB hpre.out (by((repeat constructor)<;>fail)));refine rK hK' hM ?_;clear hK' K';refine dC 11 (fun K' hK'=> ?_);go_wp2_with(first|(refine qt (DC _) ?_;clear hM;intro W1 hM));refine rK hK' hM ?_;clear hK' K';refine rD 12 ?_;refine rD 13 ?_;refine dC 14 (fun K' hK'=> ?_);refine oS hM ?_ (hc:=uF hpre.out (by((repeat constructor)<;>fail)));clear hM;intro W hM;refine rK hK' hM ?_;clear hK' K';refine rD 15 ?_;refine rD 16 ?_;refine dC 17 (fun K' hK'=> ?_);refine oS hM ?_ (hc:=uF hpre.out (by((repeat constructor)<;>fail)));clear hM;intro W hM;refine rK hK' hM ?_;clear hK' K';refine qp qM ?_;go_wp2_with(first|(refine qe ?_;clear hM;intro g W hM))
   all_goals
    have e2:(t.map (·.1)).getD d=d2:=by rw[HN.out,Option.map_some,Option.getD_some,hd1.out,hd2.out]
    have e3:t.isSome=true:=by rw[HN.out,Option.isSome_some]
    have e4:((t.map (·.2)).getD y).cells=(tX y.k tx ty y.bx y.b_y y.cx y.cy y.r y.f y.s c1 c1 k1 y.n y.g):=by rw[HN.out,Option.map_some,Option.getD_some];rfl
    (go_ret;exact⟨by rw[e3];rfl,V2,B2,by rw[e2];exact hO2.out,by rw[e2,e4];exact qC (qC (qC (qC hM)))⟩)
  ·
   refine oM hM ?_ (hC:=kB hpre.out (by((repeat constructor)<;>fail)));refine rK hK' hM ?_;clear hK' K';refine dT 5 11 (fun K' hK'=> ?_) (fun K' hK'=> ?_)
   ·
    refine oL hM ?_ (hv:=Zy hpre.out rfl);refine rK hK' hM ?_;clear hK' K';refine dC 11 (fun K' hK'=> ?_);go_wp2_with(first|(refine qt (DC _) ?_;clear hM;intro W1 hM));refine rK hK' hM ?_;clear hK' K';refine rD 12 ?_;refine rD 13 ?_;refine dC 14 (fun K' hK'=> ?_);refine oS hM ?_ (hc:=uF hpre.out (by((repeat constructor)<;>fail)));clear hM;intro W hM;refine rK hK' hM ?_;clear hK' K';refine rD 15 ?_;refine rD 16 ?_;refine dC 17 (fun K' hK'=> ?_);refine oS hM ?_ (hc:=uF hpre.out (by((repeat constructor)<;>fail)));clear hM;intro W hM;refine rK hK' hM ?_;clear hK' K';refine qp qM ?_;go_wp2_with(first|(refine qe ?_;clear hM;intro g W hM))
    all_goals
     have e2:(t.map (·.1)).getD d=d2:=by rw[HN.out,Option.map_some,Option.getD_some,hd1.out,hd2.out]
     have e3:t.isSome=true:=by rw[HN.out,Option.isSome_some]
     have e4:((t.map (·.2)).getD y).cells=(tX y.k tx ty y.bx y.b_y y.cx y.cy y.r y.f y.s c1 c1 k1 y.n y.g):=by rw[HN.out,Option.map_some,Option.getD_some];rfl
     (go_ret;exact⟨by rw[e3];rfl,V2,B2,by rw[e2];exact hO2.out,by rw[e2,e4];exact qC (qC (qC (qC hM)))⟩)
   ·
    go_wp2_with(first|(refine qt (DC _) ?_;clear hM;intro W1 hM));refine rK hK' hM ?_;clear hK' K';refine dC 5 (fun K' hK'=> ?_);refine oL hM ?_ (hv:=Zy hpre.out rfl);refine rK hK' hM ?_;clear hK' K';refine rD 12 ?_;refine rD 13 ?_;refine dC 14 (fun K' hK'=> ?_);refine oS hM ?_ (hc:=uF hpre.out (by((repeat constructor)<;>fail)));clear hM;intro W hM;refine rK hK' hM ?_;clear hK' K';refine rD 15 ?_;refine rD 16 ?_;refine dC 17 (fun K' hK'=> ?_);refine oS hM ?_ (hc:=uF hpre.out (by((repeat constructor)<;>fail)));clear hM;intro W hM;refine rK hK' hM ?_;clear hK' K';refine qp qM ?_;go_wp2_with(first|(refine qe ?_;clear hM;intro g W hM))
    all_goals
     have e2:(t.map (·.1)).getD d=d2:=by rw[HN.out,Option.map_some,Option.getD_some,hd1.out,hd2.out]
     have e3:t.isSome=true:=by rw[HN.out,Option.isSome_some]
     have e4:((t.map (·.2)).getD y).cells=(tX y.k tx ty y.bx y.b_y y.cx y.cy y.r y.f y.s c1 c1 k1 y.n y.g):=by rw[HN.out,Option.map_some,Option.getD_some];rfl
     (go_ret;exact⟨by rw[e3];rfl,V2,B2,by rw[e2];exact hO2.out,by rw[e2,e4];exact qC (qC (qC (qC hM)))⟩)
  )
end Go.Proofs.YtiegohjobhehcaaGreatDoor
