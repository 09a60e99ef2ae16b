/-
  turn.Tangent for all arguments, by boxes.
-/
import Derived.Test.YtcgpbnlhnafhjaaGreatDoorMLineD
import Derived.Test.YtcgpbnlhnafhjaaGreatDoorMMemD
namespace Go.Proofs.YtcgpbnlhnafhjaaGreatDoor
open Go.RowKit
set_option linter.unusedVariables false
set_option linter.unusedSimpArgs false
theorem iz{cx cy r px py:Int}{right:Bool}(h:(qw cx cy&&qw px py)=false):Zj cx cy r px py right=(0,0,1):=by unfold Zj;rw[h];rfl
theorem df{cx cy r px py:Int}{right:Bool}(h:(qw cx cy&&qw px py)=true)(h2:r<1∨r>8000000):Zj cx cy r px py right=(0,0,2):=by unfold Zj;rw[h,if_neg DS,if_pos h2]
theorem iA{cx cy r px py:Int}{right:Bool}(h:(qw cx cy&&qw px py)=true)(h2:¬(r<1∨r>8000000))(h3:zV cx cy px py≤r*r):Zj cx cy r px py right=(0,0,10):=by unfold Zj;rw[h,if_neg DS,if_neg h2,if_pos h3]
theorem dg{cx cy r px py X Y E:Int}{right:Bool}(h:(qw cx cy&&qw px py)=true)(h2:¬(r<1∨r>8000000))(h3:¬zV cx cy px py≤r*r)(hY:zi cx cy (Qa cx cy r px py right) r=(X,Y,E)):Zj cx cy r px py right=if E≠0 then(0,0,2)else(X,Y,0):=by
 unfold Zj;rw[h,if_neg DS,if_neg h2,if_neg h3,hY]
theorem Ka{cx cy r px py:Int}(h:(qw cx cy&&qw px py)=true)(h3:¬zV cx cy px py≤r*r):(qN cx cy px py).1=jJ (px-cx) (py-cy):=by
 unfold qN;rw[h,if_neg DS,if_neg];rintro⟨rfl,rfl⟩;apply h3;unfold zV;rw[Int.sub_self,Int.sub_self];exact jk r
set_option maxRecDepth 100000 in
set_option maxHeartbeats 8000000 in
theorem Mv(cx cy r px py b:Int)(right:Bool)(hb:b=1∧right=false∨b=2∧right=true)(w:World)(v0 v1 e0:Int)(hR:Hid ((v0,v1,e0)=Zj cx cy r px py right)):
 Calls Tryz.prog 100 #[.agg #[Iv cx,Iv cy],Iv r,.int .u8 b,.agg #[Iv px,Iv py]] w fun e w'=>e= .returned (.tuple #[.agg #[Iv v0,Iv v1],Iv e0])∧Below w.heap.size w w':=by
 rcases hb with⟨rfl,hb⟩|⟨rfl,hb⟩
 all_goals(
  have hrt:=hide hb;clear hb;have PV0:=fun W=>qQ cx cy W
  have PV1:=fun W=>qQ px py W
  obtain⟨p0,hp0⟩:∃p0,qw cx cy=p0:=⟨_,rfl⟩;obtain⟨p1,BU⟩:∃p1,qw px py=p1:=⟨_,rfl⟩;rw[hp0]at PV0;rw[BU]at PV1;have HP:=hide (And.intro hp0 BU);clear hp0 BU;have hM:=qE w;go_enter Tryz.func100,Tryz.ntmps100;go_upto_region 0 with fail;refine qu ?_;go_cut [8,7,4] (fun s8 s7 s4 wx=>∃gO gP gC:Nat,s8= .pointer (some ⟨gO,0,none⟩)∧s7= .pointer (some ⟨gP,0,none⟩)∧s4= .pointer (some ⟨gC,0,none⟩)∧qU w wx ((gO,[Iv 0,Iv 0],26)::[(gP,[Iv px,Iv py],26),(gC,[Iv cx,Iv cy],26)]))
  case first=>
   go_wp2_with(first|(refine DU ?_;clear hM;intro g W hM))
   all_goals
    go_meet;exact⟨_,_,_,rfl,rfl,rfl,hM⟩
  case rest=>
  clear hM;obtain⟨gO,gP,gC,rfl,rfl,rfl,hM⟩:=hcut;go_upto_region 1 with(first|(refine qf (PV0 _) ?_;clear hM;intro W1 hM)|(refine qf (PV1 _) ?_;clear hM;intro W1 hM)|refine qg ?_|((with_reducible refine kq ?_);refine yP (fun hg=> ?_) (fun hg=> ?_)<;>simp[go_sem,Region.wanted]at hg)|(refine DU ?_;clear hM;intro g W hM));go_cut [19] (fun s wx=>∃b,s= .bool b∧Hid (b=((!p0|| !p1)))∧qU w wx ((gO,[Iv 0,Iv 0],26)::[(gP,[Iv px,Iv py],26),(gC,[Iv cx,Iv cy],26)]))
  case first=>
   go_wp2_with(first|(refine qf (PV0 _) ?_;clear hM;intro W1 hM)|(refine qf (PV1 _) ?_;clear hM;intro W1 hM)|refine qg ?_|((with_reducible refine kq ?_);refine yP (fun hg=> ?_) (fun hg=> ?_)<;>simp[go_sem,Region.wanted]at hg)|(refine DU ?_;clear hM;intro g W hM))
   all_goals
    go_meet;exact⟨_,rfl,hide (by(subst_vars;(repeat(first|rfl|(cases p0<;>simp_all;done)|(cases p1<;>simp_all;done)|(cases p0<;>cases p1<;>simp_all;done))))),hM⟩
  case rest=>
  clear hM;obtain⟨b1,rfl,hb1,hM⟩:=hcut;rcases hq1:b1 with _|_;rotate_left 1
  ·have hN:(qw cx cy&&qw px py)=false:=by
    obtain⟨h1,h2⟩:=HP.out;rw[h1,h2];have:=hb1.out;rw[hq1]at this;revert this;cases p0<;>cases p1<;>simp
   clear HP hb1;subst hq1;obtain⟨rfl,rfl,rfl⟩:v0=0∧v1=0∧e0=1:=by simpa using hR.out.trans (iz hN)
   go_wp2_with(first|(refine DU ?_;clear hM;intro g W hM))
   all_goals
    (refine' qO hM rfl rfl Tryz.isAgg26 Tryz.sizeOf26 rfl rfl ?_ ?_ ⟨?_,hM.below⟩;rotate_left 2;(·repeat constructor);(·rfl);(·rfl))
  have hN:p0=true∧p1=true:=by
   have:=hb1.out;rw[hq1]at this;revert this;cases p0<;>cases p1<;>simp
  obtain⟨rfl,rfl⟩:=hN;have HV:Hid ((qw cx cy&&qw px py)=true):=hide (by rw[HP.out.1,HP.out.2];rfl);subst hq1;clear hb1 PV0 PV1;by_cases hr3:r<1∨r>8000000
  ·obtain⟨rfl,rfl,rfl⟩:v0=0∧v1=0∧e0=2:=by simpa using hR.out.trans (df HV.out hr3)
   have hrr:(decide (r<1)=true)∨(decide (r<1)=false∧decide (8000000<r)=true):=by
    by_cases h:r<1
    ·exact .inl (decide_eq_true h)
    ·exact .inr ⟨decide_eq_false h,decide_eq_true DL⟩
   clear hr3;rcases hrr with hrr|⟨hrr,hrr2⟩
   all_goals
    go_wp2_with(first|(refine DU ?_;clear hM;intro g W hM))
    all_goals
     (refine' qO hM rfl rfl Tryz.isAgg26 Tryz.sizeOf26 rfl rfl ?_ ?_ ⟨?_,hM.below⟩;rotate_left 2;(·repeat constructor);(·rfl);(·rfl))
  have hr1:¬r<1:=DL;have hr2:¬r>8000000:=DL;have HR3:=hide hr3;have hv0:=zu HP.out.1;have hv1:=zu HP.out.2;have q1:=jM (a:=px-cx) (b:=px-cx) DL DL DL DL;have q2:=jM (a:=py-cy) (b:=py-cy) DL DL DL DL;have q3:=jk (px-cx);have q4:=jk (py-cy);have rr:1≤r*r∧r*r≤64000000000000:=⟨Int.mul_le_mul (show(1:Int)≤r by omega) (show(1:Int)≤r by omega) DQ DL,Int.mul_le_mul (show r≤8000000 by omega) (show r≤8000000 by omega) DL DQ⟩;have w1:=wi (x:=px-cx) DL DL;have w2:=wi (x:=py-cy) DL DL;have w3:=wi (x:=(px-cx)*(px-cx)) DL DL;have w4:=wi (x:=(py-cy)*(py-cy)) DL DL;have w5:=wi (x:=(px-cx)*(px-cx)+(py-cy)*(py-cy)) DL DL;have w6:=wi (x:=r*r) DL DL;have hd2:zV cx cy px py=(px-cx)*(px-cx)+(py-cy)*(py-cy):=rfl;go_upto_region 5 with(first|(refine DU ?_;clear hM;intro g W hM));refine qu ?_;go_cut [10,11] (fun s10 s11 wx=>s10=Iv (px-cx)∧s11=Iv (py-cy)∧qU w wx ((gO,[Iv 0,Iv 0],26)::[(gP,[Iv px,Iv py],26),(gC,[Iv cx,Iv cy],26)]))
  case first=>
   refine jD hM DN ?_;(clear hM;intro W hM hK);refine kP 0 hM hK ?_;refine qu ?_
   first|refine kL 1 hM hK ?_|refine kM 1 hM hK ?_
   refine qu ?_;refine kP 2 hM hK ?_;refine qu ?_
   first|refine kL 3 hM hK ?_|refine kM 3 hM hK ?_
   refine qu ?_;refine kP 4 hM hK ?_;refine qu ?_;refine kP 5 hM hK ?_;refine qu ?_
   first|refine kL 6 hM hK ?_|refine kM 6 hM hK ?_
   refine qu ?_;refine kP 7 hM hK ?_;refine qu ?_
   first|refine kL 8 hM hK ?_|refine kM 8 hM hK ?_
   refine qu ?_;refine kP 9 hM hK ?_;refine qu ?_;refine kP 10 hM hK ?_;refine qu ?_;refine kP 11 hM hK ?_;refine qu ?_;refine qF DN ?_;go_wp2_with(first|(refine DU ?_;clear hM;intro g W hM))
   all_goals
    go_meet;exact⟨by first|rfl|simp only[w1],by first|rfl|simp only[w2],hM⟩
  case rest=>
  clear hM;obtain⟨rfl,rfl,hM⟩:=hcut;by_cases h3:zV cx cy px py≤r*r
  ·obtain⟨rfl,rfl,rfl⟩:v0=0∧v1=0∧e0=10:=by simpa using hR.out.trans (iA HV.out HR3.out h3)
   rw[hd2]at h3;clear hd2 q1 q2 q3 q4 hv0 hv1;generalize px-cx=dx at*;generalize py-cy=dy at*;go_wp2_with(first|(refine DU ?_;clear hM;intro g W hM))
   all_goals
    (refine' qO hM rfl rfl Tryz.isAgg26 Tryz.sizeOf26 rfl rfl ?_ ?_ ⟨?_,hM.below⟩;rotate_left 2;(·repeat constructor);(·rfl);(·rfl))
  have ce:=Ka HV.out h3;have H3:=hide h3;rw[hd2]at h3;have cbd:=uU (px-cx) (py-cy);have CS:=fun W=>vk cx cy px py W
  rw[ce]at CS;obtain⟨ue,hue⟩:∃ue,(qN cx cy px py).2=ue:=⟨_,rfl⟩;rw[hue]at CS;clear hue ce
  have hk:((vu ((px-cx)*(px-cx)+(py-cy)*(py-cy)-r*r).toNat:Nat):Int)≤8000000:=ZV DL (by
   have:=tj ((px-cx)*(px-cx)+(py-cy)*(py-cy)-r*r) DL
   omega)
  have SQ:=fun W=>VT ((px-cx)*(px-cx)+(py-cy)*(py-cy)-r*r) DP W
  have w7:=wi (x:=(px-cx)*(px-cx)+(py-cy)*(py-cy)-r*r) DL DL;have hk0:0≤((vu ((px-cx)*(px-cx)+(py-cy)*(py-cy)-r*r).toNat:Nat):Int):=DL;obtain⟨k,hkk⟩:∃k:Int,((vu ((px-cx)*(px-cx)+(py-cy)*(py-cy)-r*r).toNat:Nat):Int)=k:=⟨_,rfl⟩;rw[hkk]at SQ hk hk0;have AT:=fun W=>Uy k r DL DL DL DL DL W
  have zb:=uU k r;obtain⟨z,hz⟩:∃z,jJ k r=z:=⟨_,rfl⟩;obtain⟨y,hy⟩:∃y,jJ (px-cx) (py-cy)=y:=⟨_,rfl⟩;rw[hz]at AT zb;rw[hy]at CS cbd
  have HT:=hide (show Qa cx cy r px py right=zy y (if right then-z else z) by
   unfold Qa
   rw[hy,hd2,hkk,hz])
  clear hkk hz hy hd2 q1 q2 q3 q4 hv0 hv1;generalize px-cx=dx at*;generalize py-cy=dy at*;obtain⟨u,hu⟩:∃u,(if right then-z else z)=u:=⟨_,rfl⟩;rw[hu]at HT;have ub: -129600000≤u∧u≤129600000:=by rw[←hu];split<;>omega
  have TN:=fun W=>gH y u DP DP W
  have tb:=kG y u;obtain⟨D,hD⟩:∃D,zy y u=D:=⟨_,rfl⟩;rw[hD]at TN tb HT;obtain⟨kx,ky,E,hY0⟩:∃kx ky E,zi cx cy D r=(kx,ky,E):=⟨_,_,_,rfl⟩;have RY:=fun W=>jN cx cy D r DP DP W _ hY0.symm
  have HR:=hide (hR.out.trans (dg (X:=kx) (Y:=ky) (E:=E) HV.out HR3.out H3.out (by rw[HT.out];exact hY0)));clear hR HV H3 HT hY0 hD HP;have hR:=HR;clear HR;rw[hrt.out]at hu;simp only[if_true,if_false,Bool.false_eq_true]at hu;subst hu;go_upto_region 13 with(first|(refine DU ?_;clear hM;intro g W hM)|(refine qf (CS _) ?_;clear hM;intro W1 hM)|(refine JL (SQ _) ?_;clear hM;intro n1 hM)|(refine qf (AT _) ?_;clear hM;intro W1 hM));refine qu ?_;go_cut [17,18] (fun s17 s18 wx=>∃g17:Nat,s17= .pointer (some ⟨g17,0,none⟩)∧s18=Iv E∧qU w wx ((g17,[Iv kx,Iv ky],26)::((gO,[Iv 0,Iv 0],26)::[(gP,[Iv px,Iv py],26),(gC,[Iv cx,Iv cy],26)])))
  case first=>
   refine qP [(gC,[Iv cx,Iv cy],26)] hM DN ?_;(clear hM;intro W hM);refine rD 0 ?_;refine rD 1 ?_;refine rD 2 ?_;refine rD 4 ?_;refine dT 3 9 (fun K' hK'=> ?_) (fun K' hK'=> ?_)
   ·
    go_wp2_with(first|refine DG (TN _) ?_|(refine qf (RY _) ?_;clear hM;intro W1 hM));refine rK hK' hM ?_;clear hK' K';refine dT 5 9 (fun K' hK'=> ?_) (fun K' hK'=> ?_)
    ·
     go_wp2_with(first|refine DG (TN _) ?_|(refine qf (RY _) ?_;clear hM;intro W1 hM));refine rK hK' hM ?_;clear hK' K';refine rD 6 ?_;refine rD 7 ?_;refine rD 8 ?_;refine dC 9 (fun K' hK'=> ?_);refine oN hM ?_;clear hM;intro g17 W hM;refine rK hK' hM ?_;clear hK' K';refine dC 10 (fun K' hK'=> ?_);refine oS hM ?_;clear hM;intro W hM;refine rK hK' hM ?_;clear hK' K';refine rD 11 ?_;refine qF DN ?_;go_wp2_with fail
     all_goals
      go_meet;exact⟨_,rfl,rfl,hM⟩
    ·
     refine oN hM ?_;clear hM;intro g17 W hM;refine rK hK' hM ?_;clear hK' K';refine dC 5 (fun K' hK'=> ?_);go_wp2_with(first|refine DG (TN _) ?_|(refine qf (RY _) ?_;clear hM;intro W1 hM));refine rK hK' hM ?_;clear hK' K';refine rD 6 ?_;refine rD 7 ?_;refine rD 8 ?_;refine dC 10 (fun K' hK'=> ?_);refine oS hM ?_;clear hM;intro W hM;refine rK hK' hM ?_;clear hK' K';refine rD 11 ?_;refine qF DN ?_;go_wp2_with fail
     all_goals
      go_meet;exact⟨_,rfl,rfl,hM⟩
   ·
    refine oN hM ?_;clear hM;intro g17 W hM;refine rK hK' hM ?_;clear hK' K';refine dC 3 (fun K' hK'=> ?_);go_wp2_with(first|refine DG (TN _) ?_|(refine qf (RY _) ?_;clear hM;intro W1 hM));refine rK hK' hM ?_;clear hK' K';refine dC 5 (fun K' hK'=> ?_);go_wp2_with(first|refine DG (TN _) ?_|(refine qf (RY _) ?_;clear hM;intro W1 hM));refine rK hK' hM ?_;clear hK' K';refine rD 6 ?_;refine rD 7 ?_;refine rD 8 ?_;refine dC 10 (fun K' hK'=> ?_);refine oS hM ?_;clear hM;intro W hM;refine rK hK' hM ?_;clear hK' K';refine rD 11 ?_;refine qF DN ?_;go_wp2_with fail
    all_goals
     go_meet;exact⟨_,rfl,rfl,hM⟩
  case rest=>
  clear hM;obtain⟨g17,rfl,rfl,hM⟩:=hcut;by_cases hE:E=0
  ·subst hE;obtain⟨rfl,rfl,rfl⟩:v0=kx∧v1=ky∧e0=0:=by simpa using hR.out
   go_wp2_with(first|(refine DU ?_;clear hM;intro g W hM))
   all_goals
    (refine' qO hM rfl rfl Tryz.isAgg26 Tryz.sizeOf26 rfl rfl ?_ ?_ ⟨?_,hM.below⟩;rotate_left 2;(·repeat constructor);(·rfl);(·rfl))
  ·obtain⟨rfl,rfl,rfl⟩:v0=0∧v1=0∧e0=2:=by simpa[hE]using hR.out
   have hE':(E !=0)=true:=by simpa using hE
   clear hE;go_wp2_with(first|(refine DU ?_;clear hM;intro g W hM))
   all_goals
    (refine' qO hM rfl rfl Tryz.isAgg26 Tryz.sizeOf26 rfl rfl ?_ ?_ ⟨?_,hM.below⟩;rotate_left 2;(·repeat constructor);(·rfl);(·rfl))
  )
set_option maxRecDepth 100000 in
set_option maxHeartbeats 8000000 in
theorem Np(cx cy r px py b:Int)(right:Bool)(hb:b=1∧right=false∨b=2∧right=true)(w:World)(v0 v1 e0:Int)(hR:Hid ((v0,v1,e0)=Zj cx cy r px py right)):
 Calls Tryz.prog 131 #[.agg #[Iv cx,Iv cy],Iv r,.int .u8 b,.agg #[Iv px,Iv py]] w fun e w'=>e= .returned (.tuple #[.agg #[Iv v0,Iv v1],Iv e0])∧Below w.heap.size w w':=by
 rcases hb with⟨rfl,hb⟩|⟨rfl,hb⟩
 all_goals(
  have hrt:=hide hb;clear hb;have PV0:=fun W=>qL cx cy W
  have PV1:=fun W=>qL px py W
  obtain⟨p0,hp0⟩:∃p0,qw cx cy=p0:=⟨_,rfl⟩;obtain⟨p1,BU⟩:∃p1,qw px py=p1:=⟨_,rfl⟩;rw[hp0]at PV0;rw[BU]at PV1;have HP:=hide (And.intro hp0 BU);clear hp0 BU;have hM:=qE w;go_enter Tryz.func131,Tryz.ntmps131;go_upto_region 0 with fail;refine qu ?_;go_cut [8,7,4] (fun s8 s7 s4 wx=>∃gO gP gC:Nat,s8= .pointer (some ⟨gO,0,none⟩)∧s7= .pointer (some ⟨gP,0,none⟩)∧s4= .pointer (some ⟨gC,0,none⟩)∧qU w wx ((gO,[Iv 0,Iv 0],26)::[(gP,[Iv px,Iv py],26),(gC,[Iv cx,Iv cy],26)]))
  case first=>
   go_wp2_with(first|(refine DU ?_;clear hM;intro g W hM))
   all_goals
    go_meet;exact⟨_,_,_,rfl,rfl,rfl,hM⟩
  case rest=>
  clear hM;obtain⟨gO,gP,gC,rfl,rfl,rfl,hM⟩:=hcut;go_upto_region 1 with(first|(refine qf (PV0 _) ?_;clear hM;intro W1 hM)|(refine qf (PV1 _) ?_;clear hM;intro W1 hM)|refine qg ?_|((with_reducible refine kq ?_);refine yP (fun hg=> ?_) (fun hg=> ?_)<;>simp[go_sem,Region.wanted]at hg)|(refine DU ?_;clear hM;intro g W hM));go_cut [17] (fun s wx=>∃b,s= .bool b∧Hid (b=((!p0|| !p1)))∧qU w wx ((gO,[Iv 0,Iv 0],26)::[(gP,[Iv px,Iv py],26),(gC,[Iv cx,Iv cy],26)]))
  case first=>
   go_wp2_with(first|(refine qf (PV0 _) ?_;clear hM;intro W1 hM)|(refine qf (PV1 _) ?_;clear hM;intro W1 hM)|refine qg ?_|((with_reducible refine kq ?_);refine yP (fun hg=> ?_) (fun hg=> ?_)<;>simp[go_sem,Region.wanted]at hg)|(refine DU ?_;clear hM;intro g W hM))
   all_goals
    go_meet;exact⟨_,rfl,hide (by(subst_vars;(repeat(first|rfl|(cases p0<;>simp_all;done)|(cases p1<;>simp_all;done)|(cases p0<;>cases p1<;>simp_all;done))))),hM⟩
  case rest=>
  clear hM;obtain⟨b1,rfl,hb1,hM⟩:=hcut;rcases hq1:b1 with _|_;rotate_left 1
  ·have hN:(qw cx cy&&qw px py)=false:=by
    obtain⟨h1,h2⟩:=HP.out;rw[h1,h2];have:=hb1.out;rw[hq1]at this;revert this;cases p0<;>cases p1<;>simp
   clear HP hb1;subst hq1;obtain⟨rfl,rfl,rfl⟩:v0=0∧v1=0∧e0=1:=by simpa using hR.out.trans (iz hN)
   go_wp2_with(first|(refine DU ?_;clear hM;intro g W hM))
   all_goals
    (refine' qO hM rfl rfl Tryz.isAgg26 Tryz.sizeOf26 rfl rfl ?_ ?_ ⟨?_,hM.below⟩;rotate_left 2;(·repeat constructor);(·rfl);(·rfl))
  have hN:p0=true∧p1=true:=by
   have:=hb1.out;rw[hq1]at this;revert this;cases p0<;>cases p1<;>simp
  obtain⟨rfl,rfl⟩:=hN;have HV:Hid ((qw cx cy&&qw px py)=true):=hide (by rw[HP.out.1,HP.out.2];rfl);subst hq1;clear hb1 PV0 PV1;by_cases hr3:r<1∨r>8000000
  ·obtain⟨rfl,rfl,rfl⟩:v0=0∧v1=0∧e0=2:=by simpa using hR.out.trans (df HV.out hr3)
   have hrr:(decide (r<1)=true)∨(decide (r<1)=false∧decide (8000000<r)=true):=by
    by_cases h:r<1
    ·exact .inl (decide_eq_true h)
    ·exact .inr ⟨decide_eq_false h,decide_eq_true DL⟩
   clear hr3;rcases hrr with hrr|⟨hrr,hrr2⟩
   all_goals
    go_wp2_with(first|(refine DU ?_;clear hM;intro g W hM))
    all_goals
     (refine' qO hM rfl rfl Tryz.isAgg26 Tryz.sizeOf26 rfl rfl ?_ ?_ ⟨?_,hM.below⟩;rotate_left 2;(·repeat constructor);(·rfl);(·rfl))
  have hr1:¬r<1:=DL;have hr2:¬r>8000000:=DL;have HR3:=hide hr3;have hv0:=zu HP.out.1;have hv1:=zu HP.out.2;have q1:=jM (a:=px-cx) (b:=px-cx) DL DL DL DL;have q2:=jM (a:=py-cy) (b:=py-cy) DL DL DL DL;have q3:=jk (px-cx);have q4:=jk (py-cy);have rr:1≤r*r∧r*r≤64000000000000:=⟨Int.mul_le_mul (show(1:Int)≤r by omega) (show(1:Int)≤r by omega) DQ DL,Int.mul_le_mul (show r≤8000000 by omega) (show r≤8000000 by omega) DL DQ⟩;have w6:=wi (x:=r*r) DL DL;have DT:=fun W=>JB cx cy px py cx cy px py DL DL DL DL DL DL DL DL W
  have hd2:(px-cx)*(px-cx)+(py-cy)*(py-cy)=zV cx cy px py:=rfl;have db:0≤zV cx cy px py∧zV cx cy px py≤32000000000000:=by rw[←hd2];omega
  rw[hd2]at DT;clear hd2 q1 q2 q3 q4;by_cases h3:zV cx cy px py≤r*r
  ·obtain⟨rfl,rfl,rfl⟩:v0=0∧v1=0∧e0=10:=by simpa using hR.out.trans (iA HV.out HR3.out h3)
   generalize zV cx cy px py=d2 at*;go_wp2_with(first|(refine DU ?_;clear hM;intro g W hM)|(refine qf (DT _) ?_;clear hM;intro W1 hM))
   all_goals
    (refine' qO hM rfl rfl Tryz.isAgg26 Tryz.sizeOf26 rfl rfl ?_ ?_ ⟨?_,hM.below⟩;rotate_left 2;(·repeat constructor);(·rfl);(·rfl))
  have ce:=Ka HV.out h3;have H3:=hide h3;have cbd:=uU (px-cx) (py-cy);have CS:=fun W=>yX cx cy px py W
  rw[ce]at CS;obtain⟨ue,hue⟩:∃ue,(qN cx cy px py).2=ue:=⟨_,rfl⟩;rw[hue]at CS;clear hue ce
  have hk:((vu (zV cx cy px py-r*r).toNat:Nat):Int)≤8000000:=ZV DL (by
   have:=tj (zV cx cy px py-r*r) DL
   omega)
  have SQ:=fun W=>QN (zV cx cy px py-r*r) DP W
  have w7:=wi (x:=zV cx cy px py-r*r) DL DL;have hk0:0≤((vu (zV cx cy px py-r*r).toNat:Nat):Int):=DL;obtain⟨k,hkk⟩:∃k:Int,((vu (zV cx cy px py-r*r).toNat:Nat):Int)=k:=⟨_,rfl⟩;rw[hkk]at SQ hk hk0;have AT:=fun W=>VM k r DL DL DL DL DL W
  have zb:=uU k r;obtain⟨z,hz⟩:∃z,jJ k r=z:=⟨_,rfl⟩;obtain⟨y,hy⟩:∃y,jJ (px-cx) (py-cy)=y:=⟨_,rfl⟩;rw[hz]at AT zb;rw[hy]at CS cbd
  have HT:=hide (show Qa cx cy r px py right=zy y (if right then-z else z) by
   unfold Qa
   rw[hy,hkk,hz])
  clear hkk hz hy hv0 hv1;obtain⟨u,hu⟩:∃u,(if right then-z else z)=u:=⟨_,rfl⟩;rw[hu]at HT;have ub: -129600000≤u∧u≤129600000:=by rw[←hu];split<;>omega
  have TN:=fun W=>xa y u DP DP W
  have tb:=kG y u;obtain⟨D,hD⟩:∃D,zy y u=D:=⟨_,rfl⟩;rw[hD]at TN tb HT;obtain⟨kx,ky,E,hY0⟩:∃kx ky E,zi cx cy D r=(kx,ky,E):=⟨_,_,_,rfl⟩;have RY:=fun W=>jv cx cy D r DP DP W _ hY0.symm
  have HR:=hide (hR.out.trans (dg (X:=kx) (Y:=ky) (E:=E) HV.out HR3.out H3.out (by rw[HT.out];exact hY0)));clear hR HV H3 HT hY0 hD HP;have hR:=HR;clear HR;generalize zV cx cy px py=d2 at*;rw[hrt.out]at hu;simp only[if_true,if_false,Bool.false_eq_true]at hu;subst hu;go_upto_region 12 with(first|(refine DU ?_;clear hM;intro g W hM)|(refine qf (DT _) ?_;clear hM;intro W1 hM)|(refine qf (CS _) ?_;clear hM;intro W1 hM)|refine DG (SQ _) ?_|refine DG (AT _) ?_);refine qu ?_;go_cut [15,16] (fun s17 s18 wx=>∃g17:Nat,s17= .pointer (some ⟨g17,0,none⟩)∧s18=Iv E∧qU w wx ((g17,[Iv kx,Iv ky],26)::((gO,[Iv 0,Iv 0],26)::[(gP,[Iv px,Iv py],26),(gC,[Iv cx,Iv cy],26)])))
  case first=>
   refine qP [(gC,[Iv cx,Iv cy],26)] hM DN ?_;(clear hM;intro W hM);refine rD 0 ?_;refine rD 1 ?_;refine rD 2 ?_;refine rD 4 ?_;refine dT 3 9 (fun K' hK'=> ?_) (fun K' hK'=> ?_)
   ·
    go_wp2_with(first|refine DG (TN _) ?_|(refine qf (RY _) ?_;clear hM;intro W1 hM));refine rK hK' hM ?_;clear hK' K';refine dT 5 9 (fun K' hK'=> ?_) (fun K' hK'=> ?_)
    ·
     go_wp2_with(first|refine DG (TN _) ?_|(refine qf (RY _) ?_;clear hM;intro W1 hM));refine rK hK' hM ?_;clear hK' K';refine rD 6 ?_;refine rD 7 ?_;refine rD 8 ?_;refine dC 9 (fun K' hK'=> ?_);refine oN hM ?_;clear hM;intro g15 W hM;refine rK hK' hM ?_;clear hK' K';refine dC 10 (fun K' hK'=> ?_);refine oS hM ?_;clear hM;intro W hM;refine rK hK' hM ?_;clear hK' K';refine rD 11 ?_;refine qF DN ?_;go_wp2_with fail
     all_goals
      go_meet;exact⟨_,rfl,rfl,hM⟩
    ·
     refine oN hM ?_;clear hM;intro g15 W hM;refine rK hK' hM ?_;clear hK' K';refine dC 5 (fun K' hK'=> ?_);go_wp2_with(first|refine DG (TN _) ?_|(refine qf (RY _) ?_;clear hM;intro W1 hM));refine rK hK' hM ?_;clear hK' K';refine rD 6 ?_;refine rD 7 ?_;refine rD 8 ?_;refine dC 10 (fun K' hK'=> ?_);refine oS hM ?_;clear hM;intro W hM;refine rK hK' hM ?_;clear hK' K';refine rD 11 ?_;refine qF DN ?_;go_wp2_with fail
     all_goals
      go_meet;exact⟨_,rfl,rfl,hM⟩
   ·
    refine oN hM ?_;clear hM;intro g15 W hM;refine rK hK' hM ?_;clear hK' K';refine dC 3 (fun K' hK'=> ?_);go_wp2_with(first|refine DG (TN _) ?_|(refine qf (RY _) ?_;clear hM;intro W1 hM));refine rK hK' hM ?_;clear hK' K';refine dC 5 (fun K' hK'=> ?_);go_wp2_with(first|refine DG (TN _) ?_|(refine qf (RY _) ?_;clear hM;intro W1 hM));refine rK hK' hM ?_;clear hK' K';refine rD 6 ?_;refine rD 7 ?_;refine rD 8 ?_;refine dC 10 (fun K' hK'=> ?_);refine oS hM ?_;clear hM;intro W hM;refine rK hK' hM ?_;clear hK' K';refine rD 11 ?_;refine qF DN ?_;go_wp2_with fail
    all_goals
     go_meet;exact⟨_,rfl,rfl,hM⟩
  case rest=>
  clear hM;obtain⟨g17,rfl,rfl,hM⟩:=hcut;by_cases hE:E=0
  ·subst hE;obtain⟨rfl,rfl,rfl⟩:v0=kx∧v1=ky∧e0=0:=by simpa using hR.out
   go_wp2_with(first|(refine DU ?_;clear hM;intro g W hM))
   all_goals
    (refine' qO hM rfl rfl Tryz.isAgg26 Tryz.sizeOf26 rfl rfl ?_ ?_ ⟨?_,hM.below⟩;rotate_left 2;(·repeat constructor);(·rfl);(·rfl))
  ·obtain⟨rfl,rfl,rfl⟩:v0=0∧v1=0∧e0=2:=by simpa[hE]using hR.out
   have hE':(E !=0)=true:=by simpa using hE
   clear hE;go_wp2_with(first|(refine DU ?_;clear hM;intro g W hM))
   all_goals
    (refine' qO hM rfl rfl Tryz.isAgg26 Tryz.sizeOf26 rfl rfl ?_ ?_ ⟨?_,hM.below⟩;rotate_left 2;(·repeat constructor);(·rfl);(·rfl))
  )
end Go.Proofs.YtcgpbnlhnafhjaaGreatDoor
