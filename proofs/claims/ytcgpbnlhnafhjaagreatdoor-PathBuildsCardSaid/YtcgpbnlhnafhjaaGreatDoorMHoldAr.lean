/-
  Lines and arcs of patterns, entries, rays: the reference.
-/
import Derived.Test.YtcgpbnlhnafhjaaGreatDoorMHoldC
set_option maxRecDepth 100000
set_option maxHeartbeats 16000000
namespace Go.Proofs.YtcgpbnlhnafhjaaGreatDoor
open Go.RowKit
set_option linter.unusedVariables false
set_option linter.unusedSimpArgs false
theorem yU(ax ay bx b_y:Int)(w:World):Calls Tryz.prog 57 #[.agg #[Iv ax,Iv ay],.agg #[Iv bx,Iv b_y]] w fun e w'=>e= .returned (.agg #[.bool false,Iv ax,Iv ay,Iv bx,Iv b_y,Iv 0,Iv 0,Iv 0,Iv 0,Iv 0,Iv (qY ax ay bx b_y),Iv 0,.bool false])∧Below w.heap.size w w':=by
 have DA:=fun W=>ui ax ay bx b_y W
 obtain⟨k,hk⟩:∃k,qY ax ay bx b_y=k:=⟨_,rfl⟩;rw[hk]at DA;rw[hk];clear hk;have hM:=qE w;go_enter Tryz.func57,Tryz.ntmps57;go_upto_region 0 with fail;refine qu ?_;go_cut [4,3,2] (fun s4 s3 s2 wx=>∃go gb ga:Nat,s4= .pointer (some ⟨go,0,none⟩)∧s3= .pointer (some ⟨gb,0,none⟩)∧s2= .pointer (some ⟨ga,0,none⟩)∧qU w wx ((go,[.bool false,Iv 0,Iv 0,Iv 0,Iv 0,Iv 0,Iv 0,Iv 0,Iv 0,Iv 0,Iv 0,Iv 0,.bool false],53)::[(gb,[Iv bx,Iv b_y],26),(ga,[Iv ax,Iv ay],26)]))
 case first=>
  go_wp2_with(first|(refine DU ?_;clear hM;intro g W hM))
  all_goals
   go_meet;exact⟨_,_,_,rfl,rfl,rfl,hM⟩
 case rest=>
 clear hM;obtain⟨go,gb,ga,rfl,rfl,rfl,hM⟩:=hcut;go_upto_region 1 with(first|(refine DU ?_;clear hM;intro g W hM));refine qu ?_;refine qP [(gb,[Iv bx,Iv b_y],26),(ga,[Iv ax,Iv ay],26)] hM DN ?_;(clear hM;intro W hM);refine rD 0 ?_;refine rD 1 ?_;refine rD 2 ?_;refine rD 3 ?_;refine dC 4 (fun K' hK'=> ?_);go_wp2_with(first|(refine qf (DA _) ?_;clear hM;intro W1 hM));refine rK hK' hM ?_;clear hK' K';refine rD 5 ?_;refine dC 6 (fun K' hK'=> ?_);refine oS hM ?_;clear hM;intro W hM;refine rK hK' hM ?_;clear hK' K';refine qF DN ?_;go_wp2_with(first|(refine DU ?_;clear hM;intro g W hM))
 all_goals
  (refine' ug hM rfl rfl Tryz.isAgg53 Tryz.sizeOf53 rfl ?_ ?_ ⟨?_,hM.below⟩;rotate_left 2;(·repeat constructor);(·rfl);(·rfl))
theorem tQ(ax ay bx b_y cx cy rad f s:Int)(hf:qK f)(w:World):Calls Tryz.prog 127 #[.agg #[Iv ax,Iv ay],.agg #[Iv bx,Iv b_y],.agg #[Iv cx,Iv cy],Iv rad,Iv f,Iv s] w fun e w'=>e= .returned (.agg #[.bool true,Iv ax,Iv ay,Iv bx,Iv b_y,Iv cx,Iv cy,Iv rad,Iv (norm f),Iv s,Iv (qX cx cy rad (norm f) s),Iv 0,.bool false])∧Below w.heap.size w w':=by
 have NM:=fun W=>jl f hf W
 obtain⟨u,hu⟩:∃u,norm f=u:=⟨_,rfl⟩;rw[hu]at NM;rw[hu];clear hu;have TL:=fun W=>uY cx cy rad u s W
 obtain⟨k,hk⟩:∃k,qX cx cy rad u s=k:=⟨_,rfl⟩;rw[hk]at TL;rw[hk];clear hk;have hM:=qE w;go_enter Tryz.func127,Tryz.ntmps127;go_upto_region 0 with fail;refine qu ?_;go_cut [12,8,7,6] (fun s12 s8 s7 s6 wx=>∃go gc gb ga:Nat,s12= .pointer (some ⟨go,0,none⟩)∧s8= .pointer (some ⟨gc,0,none⟩)∧s7= .pointer (some ⟨gb,0,none⟩)∧s6= .pointer (some ⟨ga,0,none⟩)∧qU w wx ((go,[.bool false,Iv 0,Iv 0,Iv 0,Iv 0,Iv 0,Iv 0,Iv 0,Iv 0,Iv 0,Iv 0,Iv 0,.bool false],53)::[(gc,[Iv cx,Iv cy],26),(gb,[Iv bx,Iv b_y],26),(ga,[Iv ax,Iv ay],26)]))
 case first=>
  go_wp2_with(first|(refine DU ?_;clear hM;intro g W hM))
  all_goals
   go_meet;exact⟨_,_,_,_,rfl,rfl,rfl,rfl,hM⟩
 case rest=>
 clear hM;obtain⟨go,gc,gb,ga,rfl,rfl,rfl,rfl,hM⟩:=hcut;go_upto_region 1 with(first|(refine DU ?_;clear hM;intro g W hM));refine qu ?_;refine qP [(gc,[Iv cx,Iv cy],26),(gb,[Iv bx,Iv b_y],26),(ga,[Iv ax,Iv ay],26)] hM DN ?_;(clear hM;intro W hM);refine rD 0 ?_;refine rD 1 ?_;refine rD 2 ?_;refine rD 4 ?_;refine dT 3 6 (fun K' hK'=> ?_) (fun K' hK'=> ?_)
 ·
  go_wp2_with(first|refine DG (NM _) ?_);refine rK hK' hM ?_;clear hK' K';refine rD 5 ?_;refine dC 6 (fun K' hK'=> ?_);refine oN hM ?_;clear hM;intro g13 W hM;refine rK hK' hM ?_;clear hK' K';refine dC 7 (fun K' hK'=> ?_);refine oS hM ?_;clear hM;intro W hM;refine rK hK' hM ?_;clear hK' K';refine qF DN ?_;go_upto_region 2 with(first|(refine DU ?_;clear hM;intro g W hM));refine qu ?_;refine qP [(gc,[Iv cx,Iv cy],26),(gb,[Iv bx,Iv b_y],26),(ga,[Iv ax,Iv ay],26),(g13,[Iv cx,Iv cy,Iv rad,Iv u,Iv s],51)] hM DN ?_;(clear hM;intro W hM);refine rD 0 ?_;refine rD 1 ?_;refine rD 2 ?_;refine rD 3 ?_;refine dC 4 (fun K' hK'=> ?_);go_wp2_with(first|(refine qf (TL _) ?_;clear hM;intro W1 hM));refine rK hK' hM ?_;clear hK' K';refine rD 5 ?_;refine dC 6 (fun K' hK'=> ?_);refine oS hM ?_;clear hM;intro W hM;refine rK hK' hM ?_;clear hK' K';refine qF DN ?_;go_wp2_with(first|(refine DU ?_;clear hM;intro g W hM))
  all_goals
   (refine' ug hM rfl rfl Tryz.isAgg53 Tryz.sizeOf53 rfl ?_ ?_ ⟨?_,hM.below⟩;rotate_left 2;(·repeat constructor);(·rfl);(·rfl))
 ·
  refine oN hM ?_;clear hM;intro g13 W hM;refine rK hK' hM ?_;clear hK' K';refine dC 3 (fun K' hK'=> ?_);go_wp2_with(first|refine DG (NM _) ?_);refine rK hK' hM ?_;clear hK' K';refine rD 5 ?_;refine dC 7 (fun K' hK'=> ?_);refine oS hM ?_;clear hM;intro W hM;refine rK hK' hM ?_;clear hK' K';refine qF DN ?_;go_upto_region 2 with(first|(refine DU ?_;clear hM;intro g W hM));refine qu ?_;refine qP [(gc,[Iv cx,Iv cy],26),(gb,[Iv bx,Iv b_y],26),(ga,[Iv ax,Iv ay],26),(g13,[Iv cx,Iv cy,Iv rad,Iv u,Iv s],51)] hM DN ?_;(clear hM;intro W hM);refine rD 0 ?_;refine rD 1 ?_;refine rD 2 ?_;refine rD 3 ?_;refine dC 4 (fun K' hK'=> ?_);go_wp2_with(first|(refine qf (TL _) ?_;clear hM;intro W1 hM));refine rK hK' hM ?_;clear hK' K';refine rD 5 ?_;refine dC 6 (fun K' hK'=> ?_);refine oS hM ?_;clear hM;intro W hM;refine rK hK' hM ?_;clear hK' K';refine qF DN ?_;go_wp2_with(first|(refine DU ?_;clear hM;intro g W hM))
  all_goals
   (refine' ug hM rfl rfl Tryz.isAgg53 Tryz.sizeOf53 rfl ?_ ?_ ⟨?_,hM.below⟩;rotate_left 2;(·repeat constructor);(·rfl);(·rfl))
theorem rQ(c inb tn:Int)(ht:tn=1∨tn=2)(hc:qK c)(hi:qK inb)(w:World):Calls Tryz.prog 62 #[Iv c,Iv inb,.int .u8 tn] w fun e w'=>e= .returned (.int .u8 (gW (bd c inb tn)))∧w=w':=by
 have N1:=fun W=>jl c hc W
 have N2:=fun W=>jl inb hi W
 have b1:=zH c;have b2:=zH inb;have b3:=zH (norm inb+64800000);have N3:=fun W=>jl (norm inb+64800000) DP W
 have hw:=hide (show bd c inb tn=if tn=2 then norm (norm (norm inb+64800000)-norm c)else norm (norm c-norm (norm inb+64800000))from rfl);generalize norm (norm inb+64800000)=o at*;generalize norm c=u at*;generalize norm inb=v at*;obtain⟨q,hq⟩:∃q,bd c inb tn=q:=⟨_,rfl⟩;rw[hq]at hw;rw[hq];have w1:=IntWalk.i64_in (v+64800000) DL;have w2:=IntWalk.i64_in (o-u) DL;have w3:=IntWalk.i64_in (u-o) DL;have hk:Hid (gW q=if q<25200000 then 3 else if q≥90000000 then 2 else 1):=hide rfl;obtain⟨kk,hkk⟩:∃kk,gW q=kk:=⟨_,rfl⟩;rw[hkk]at hk;rw[hkk];clear hq hkk;rcases ht with rfl|rfl
 ·have N4:=fun W=>jl (u-o) DP W
  have hq2:q=norm (u-o):=by rw[hw.out,if_neg DQ]
  rw[←hq2]at N4;clear hq2 hw;go_enter Tryz.func62,Tryz.ntmps62;go_wp2_with(first|refine DG (N1 _) ?_|refine DG (N2 _) ?_|refine DG (N3 _) ?_|refine DG (N4 _) ?_)
  all_goals
   go_ret;exact⟨by first|(rw[hk.out,if_pos DL];rfl)|(rw[hk.out,if_neg DL,if_pos DL];rfl)|(rw[hk.out,if_neg DL,if_neg DL];rfl),rfl⟩
 ·have N4:=fun W=>jl (o-u) DP W
  have hq2:q=norm (o-u):=by rw[hw.out,if_pos rfl]
  rw[←hq2]at N4;clear hq2 hw;go_enter Tryz.func62,Tryz.ntmps62;go_wp2_with(first|refine DG (N1 _) ?_|refine DG (N2 _) ?_|refine DG (N3 _) ?_|refine DG (N4 _) ?_)
  all_goals
   go_ret;exact⟨by first|(rw[hk.out,if_pos DL];rfl)|(rw[hk.out,if_neg DL,if_pos DL];rfl)|(rw[hk.out,if_neg DL,if_neg DL];rfl),rfl⟩
theorem uO{w0 w:World}{gb:Nat}{ok:Bool}{R:List zw}(px py c dd x y e:Int)(hc:qK c)(hd:qK dd)(hR:zi px py c dd=(x,y,e))(hM:qU w0 w ((gb,[.bool ok],4)::R)):
 Calls Tryz.prog 125 #[.agg #[Iv px,Iv py],Iv c,Iv dd,.pointer (some ⟨gb,0,none⟩)] w fun e' w'=>e'= .returned (.agg #[Iv x,Iv y])∧qU w0 w' ((gb,[.bool (ok&&(e==0))],4)::R):=by
 have RY:=fun W=>jv px py c dd hc hd W _ hR.symm
 clear hR;rcases ok with _|_
 all_goals
  go_enter Tryz.func125,Tryz.ntmps125;go_wp2_with(first|(refine DU ?_;clear hM;intro g W hM)|(refine qf (RY _) ?_;clear hM;intro W1 hM))
  all_goals
   refine' ug hM rfl rfl Tryz.isAgg26 Tryz.sizeOf26 rfl ?_ ?_ ⟨?_,?_⟩;rotate_left 2;(·repeat constructor);(·rfl);(·rfl);(·first|exact qD (qD (qD hM))|(simpa using qD (qD (qD hM))))
def Yh(fx fy inb tn leg rad:Int):List Value:=if kB fx fy inb tn leg rad=0 then(let s:=tO fx fy inb tn leg rad;[Iv fx,Iv fy,Iv s.x1,Iv s.y1,Iv s.x2,Iv s.y2,Iv s.x3,Iv s.y3,Iv s.cx,Iv s.cy,Iv s.dx,Iv s.dy,Iv (kz inb tn),Iv (2*tN tn)])else[Iv 0,Iv 0,Iv 0,Iv 0,Iv 0,Iv 0,Iv 0,Iv 0,Iv 0,Iv 0,Iv 0,Iv 0,Iv 0,Iv 0]
theorem tR{fx fy inb tn leg rad e:Int}(h:kB fx fy inb tn leg rad=e)(he:e≠0):Yh fx fy inb tn leg rad=[Iv 0,Iv 0,Iv 0,Iv 0,Iv 0,Iv 0,Iv 0,Iv 0,Iv 0,Iv 0,Iv 0,Iv 0,Iv 0,Iv 0]:=by unfold Yh;rw[if_neg (by rw[h];exact he)]
set_option maxRecDepth 100000 in
set_option maxHeartbeats 8000000 in
theorem JF(fx fy inb tn leg rad:Int)(w:World):
 Calls Tryz.prog 128 #[.agg #[Iv fx,Iv fy],Iv inb,.int .u8 tn,Iv leg,Iv rad] w fun e w'=>e= .returned (.tuple #[.agg (Yh fx fy inb tn leg rad).toArray,Iv (kB fx fy inb tn leg rad)])∧Below w.heap.size w w':=by
 have PV:=fun W=>qL fx fy W
 obtain⟨p0,hp0⟩:∃p0,qw fx fy=p0:=⟨_,rfl⟩;rw[hp0]at PV;have hM:=qE w;go_enter Tryz.func128,Tryz.ntmps128;go_upto_region 0 with fail;refine qu ?_;go_cut [10,5] (fun s10 s5 wx=>∃gO gF:Nat,s10= .pointer (some ⟨gO,0,none⟩)∧s5= .pointer (some ⟨gF,0,none⟩)∧qU w wx [(gO,[Iv 0,Iv 0,Iv 0,Iv 0,Iv 0,Iv 0,Iv 0,Iv 0,Iv 0,Iv 0,Iv 0,Iv 0,Iv 0,Iv 0],146),(gF,[Iv fx,Iv fy],26)])
 case first=>
  go_wp2_with(first|(refine DU ?_;clear hM;intro g W hM))
  all_goals
   go_meet;exact⟨_,_,rfl,rfl,hM⟩
 case rest=>
 clear hM;obtain⟨gO,gF,rfl,rfl,hM⟩:=hcut;go_upto_region 1 with(first|(refine DU ?_;clear hM;intro g W hM));go_cut [26] (fun s wx=>s= .bool (!(p0&&(decide (tn=1)||decide (tn=2))))∧qU w wx [(gO,[Iv 0,Iv 0,Iv 0,Iv 0,Iv 0,Iv 0,Iv 0,Iv 0,Iv 0,Iv 0,Iv 0,Iv 0,Iv 0,Iv 0],146),(gF,[Iv fx,Iv fy],26)])
 case first=>
  have hcs:p0=false∨(p0=true∧tn=1)∨(p0=true∧tn=2)∨(p0=true∧(tn !=1)=true∧(tn !=2)=true∧decide (tn=1)=false∧decide (tn=2)=false):=by
   rcases p0 with _|_
   ·exact .inl rfl
   ·by_cases h1:tn=1
    ·exact .inr (.inl ⟨rfl,h1⟩)
    ·by_cases h2:tn=2
     ·exact .inr (.inr (.inl ⟨rfl,h2⟩))
     ·exact .inr (.inr (.inr ⟨rfl,by simpa using h1,by simpa using h2,by simpa using h1,by simpa using h2⟩))
  rcases hcs with rfl|⟨rfl,rfl⟩|⟨rfl,rfl⟩|⟨rfl,t1,t2,t3,t4⟩
  all_goals
   go_wp2_with(first|(refine DU ?_;clear hM;intro g W hM)|(refine qf (PV _) ?_;clear hM;intro W1 hM))
   all_goals
    go_meet;exact⟨by simp[*],hM⟩
 case rest=>
 clear hM;obtain⟨rfl,hM⟩:=hcut;clear PV;obtain⟨b,hb⟩:∃b,(p0&&(decide (tn=1)||decide (tn=2)))=b:=⟨_,rfl⟩;rw[hb];have HV:Hid ((qw fx fy&&(decide (tn=1)||decide (tn=2)))=b):=hide (by rw[hp0];exact hb);have hfb:b=true→_:=fun h=>zu (hp0.trans (Bool.and_eq_true_iff.1 (hb.trans h)).1)
 have ht:b=true→tn=1∨tn=2:=fun h=>by simpa using(Bool.and_eq_true_iff.1 (hb.trans h)).2
 clear hp0 hb;rcases b with _|_
 ·have HE:=hide (Gm (inb:=inb) (leg:=leg) (rad:=rad) HV.out);go_wp2_with(first|(refine DU ?_;clear hM;intro g W hM))
  all_goals
   (refine' qO hM rfl rfl Tryz.isAgg146 Tryz.sizeOf146 rfl rfl ?_ ?_ ⟨?_,hM.below⟩;rotate_left 2;(·repeat constructor);(·rfl);(·(rw[HE.out,tR HE.out DQ];rfl)))
 replace hfb:=hfb rfl;replace ht:=ht rfl;by_cases hr:inb<0∨inb≥129600000∨leg<1∨leg>2000000∨rad<1∨rad>2000000
 ·have HE:=hide (Gn (inb:=inb) (leg:=leg) (rad:=rad) HV.out hr);rcases(show(inb<0)∨(¬inb<0∧129600000≤inb)∨(¬inb<0∧¬129600000≤inb∧leg<1)∨(¬inb<0∧¬129600000≤inb∧¬leg<1∧2000000<leg)∨(¬inb<0∧¬129600000≤inb∧¬leg<1∧¬2000000<leg∧rad<1)∨(¬inb<0∧¬129600000≤inb∧¬leg<1∧¬2000000<leg∧¬rad<1∧2000000<rad) by omega)with r1|⟨r1,r2⟩|⟨r1,r2,r3⟩|⟨r1,r2,r3,r4⟩|⟨r1,r2,r3,r4,r5⟩|⟨r1,r2,r3,r4,r5,r6⟩
  all_goals
   clear hr;go_wp2_with(first|(refine DU ?_;clear hM;intro g W hM))
   all_goals
    (refine' qO hM rfl rfl Tryz.isAgg146 Tryz.sizeOf146 rfl rfl ?_ ?_ ⟨?_,hM.below⟩;rotate_left 2;(·repeat constructor);(·rfl);(·(rw[HE.out,tR HE.out DQ];rfl)))
 have HRG:=hide hr;have hrr:¬inb<0∧¬129600000≤inb∧¬leg<1∧¬2000000<leg∧¬rad<1∧¬2000000<rad:=DL;obtain⟨r1,r2,r3,r4,r5,r6⟩:=hrr;clear hr;obtain⟨q,hq⟩:∃q,tN tn=q:=⟨_,rfl⟩;have qb:q=32400000∨q= -32400000:=by rw[←hq];unfold tN;split<;>omega
 obtain⟨U,hU⟩:∃U,kz inb tn=U:=⟨_,rfl⟩;have hU2:inb+q=U:=by rw[←hq];exact hU
 have w3:=IntWalk.i64_in (2*rad) DL;have w4:=IntWalk.i64_in (inb+64800000) DL;go_upto_if 56 with(first|(refine DU ?_;clear hM;intro g W hM));obtain⟨gs,rfl⟩:=Dy hM;refine qu ?_;go_cut [] (fun wx=>qU w wx [(gs,[Iv fx,Iv fy,Iv 0,Iv 0,Iv 0,Iv 0,Iv 0,Iv 0,Iv 0,Iv 0,Iv 0,Iv 0,Iv U,Iv (2*q)],146),(gO,[Iv 0,Iv 0,Iv 0,Iv 0,Iv 0,Iv 0,Iv 0,Iv 0,Iv 0,Iv 0,Iv 0,Iv 0,Iv 0,Iv 0],146),(gF,[Iv fx,Iv fy],26)])
 case first=>
  rcases ht with rfl|rfl
  ·obtain rfl:q= -32400000:=hq.symm;have w1:IntKind.i64.wrap (inb-32400000)=U:=by rw[←hU2];exact IntWalk.i64_in _ DL
   have w2: -64800000=2*(-32400000:Int):=DQ;go_wp2_with(first|(refine DU ?_;clear hM;intro g W hM))
   all_goals
    go_meet;rw[w2]at hM;exact hM
  ·obtain rfl:q=32400000:=hq.symm;have w1:IntKind.i64.wrap (inb+32400000)=U:=by rw[←hU2];exact IntWalk.i64_in _ DL
   have w2:64800000=2*(32400000:Int):=DQ;go_wp2_with(first|(refine DU ?_;clear hM;intro g W hM))
   all_goals
    go_meet;rw[hU2,w2]at hM;exact hM
 case rest=>
 clear hM;have hM:=hcut;clear hcut;obtain⟨cx,cy,e1,h1⟩:∃cx cy e1,zi fx fy (kz inb tn) rad=(cx,cy,e1):=⟨_,_,_,rfl⟩;obtain⟨x1,y1,e2,h2⟩:∃x1 y1 e2,zi fx fy (kz inb tn) (2*rad)=(x1,y1,e2):=⟨_,_,_,rfl⟩;obtain⟨x3,y3,e3,h3⟩:∃x3 y3 e3,zi fx fy (inb+64800000) leg=(x3,y3,e3):=⟨_,_,_,rfl⟩;obtain⟨HE1,HF1⟩:=KP HV.out HRG.out h1 h2 h3;have HE:=hide HE1;have HF:=hide HF1;have b1:=JE h1;have b2:=JE h2;have b3:=JE h3;rw[hU]at h1 h2;have i1:qK U:=DP;have i2:qK rad:=DP;have i3:qK (2*rad):=DP;have i4:qK (inb+64800000):=DP;have i5:qK leg:=DP;have H1:=hide h1;have H2:=hide h2;have H3:=hide h3;have HQ:=hide (And.intro hq hU);clear h1 h2 h3 HE1 HF1 hq hU hU2 HV HRG;go_upto_region 9 with(first|(refine DU ?_;clear hM;intro g W hM));obtain⟨gk,rfl⟩:=Dy hM;go_upto_region 12 with(first|(refine DU ?_;clear hM;intro g W hM)|(go_at_call 125;(with_reducible refine cE hM (fun R' hM'=>uO fx fy U rad cx cy e1 i1 i2 H1.out hM') ?_);clear hM H1;intro W1 hM;simp only[List.cons_append,List.nil_append]at hM)|(go_at_call 125;(with_reducible refine cE hM (fun R' hM'=>uO fx fy U (2*rad) x1 y1 e2 i1 i3 H2.out hM') ?_);clear hM H2;intro W1 hM;simp only[List.cons_append,List.nil_append]at hM)|(go_at_call 125;(with_reducible refine cE hM (fun R' hM'=>uO fx fy (inb+64800000) leg x3 y3 e3 i4 i5 H3.out hM') ?_);clear hM H3;intro W1 hM;simp only[List.cons_append,List.nil_append]at hM));refine qu ?_;obtain⟨ok,hok⟩:∃ok,(((true&&(e1==0))&&(e2==0))&&(e3==0))=ok:=⟨_,rfl⟩;rw[hok]at hM;by_cases hg:e1=0∧e2=0∧e3=0;rotate_left 1
 ·have HZ:=hide (HE.out.trans (if_neg (fun h=>hg ⟨h.1,h.2.1,h.2.2.1⟩)))
  obtain rfl:ok=false:=by
   rw[←hok,Bool.eq_false_iff];intro h;simp at h;exact hg ⟨h.1.1,h.1.2,h.2⟩
  clear hok hg HE;go_wp2_with(first|(refine DU ?_;clear hM;intro g W hM))
  all_goals
   (refine' qO hM rfl rfl Tryz.isAgg146 Tryz.sizeOf146 rfl rfl ?_ ?_ ⟨?_,hM.below⟩;rotate_left 2;(·repeat constructor);(·rfl);(·(rw[HZ.out,tR HZ.out DQ];rfl)))
 obtain⟨rfl,rfl,rfl⟩:=hg;obtain rfl:ok=true:=hok.symm.trans rfl;clear hok;have w5:=IntWalk.i64_in (x3-fx) DL;have w6:=IntWalk.i64_in (y3-fy) DL;have w7:IntKind.i64.wrap (x1+(x3-fx))=x1+x3-fx:=by rw[IntWalk.i64_in _ DL];omega
 have w8:IntKind.i64.wrap (y1+(y3-fy))=y1+y3-fy:=by rw[IntWalk.i64_in _ DL];omega
 have w9:IntKind.i64.wrap (cx+(x3-fx))=cx+x3-fx:=by rw[IntWalk.i64_in _ DL];omega
 have w10:IntKind.i64.wrap (cy+(y3-fy))=cy+y3-fy:=by rw[IntWalk.i64_in _ DL];omega
 go_upto_region 14 with(first|(refine DU ?_;clear hM;intro g W hM));refine qu ?_;refine qP [(gk,[.bool true],4),(gs,[Iv fx,Iv fy,Iv x1,Iv y1,Iv 0,Iv 0,Iv x3,Iv y3,Iv cx,Iv cy,Iv 0,Iv 0,Iv U,Iv (2*q)],146),(gO,[Iv 0,Iv 0,Iv 0,Iv 0,Iv 0,Iv 0,Iv 0,Iv 0,Iv 0,Iv 0,Iv 0,Iv 0,Iv 0,Iv 0],146),(gF,[Iv fx,Iv fy],26)] hM DN ?_;(clear hM;intro W hM);refine rD 0 ?_;refine rD 1 ?_;refine rD 2 ?_;refine rD 3 ?_;refine rD 4 ?_;refine rD 5 ?_;refine rD 6 ?_;refine rD 7 ?_;refine rD 8 ?_;refine rD 9 ?_;refine rD 10 ?_;refine rD 11 ?_;refine rD 12 ?_;refine rD 13 ?_;refine qF DN ?_;have PA:=fun W=>qL (x1+x3-fx) (y1+y3-fy) W
 have PB:=fun W=>qL (cx+x3-fx) (cy+y3-fy) W
 obtain⟨va,hva⟩:∃va,qw (x1+x3-fx) (y1+y3-fy)=va:=⟨_,rfl⟩;obtain⟨vb,hvb⟩:∃vb,qw (cx+x3-fx) (cy+y3-fy)=vb:=⟨_,rfl⟩;rw[hva]at PA;rw[hvb]at PB;have HE2:Hid (kB fx fy inb tn leg rad=if va=true∧vb=true then 0 else 2):=hide (by rw[HE.out,hva,hvb];simp only[true_and]);clear HE hva hvb;rcases va with _|_<;>rcases vb with _|_
 all_goals
  first
   |have HZ:=hide (HE2.out.trans (if_pos ⟨rfl,rfl⟩))
   |have HZ:=hide (HE2.out.trans (if_neg DS))
  clear HE2;go_wp2_with(first|(refine DU ?_;clear hM;intro g W hM)|(refine qf (PA _) ?_;clear hM;intro W1 hM)|(refine qf (PB _) ?_;clear hM;intro W1 hM))
  all_goals first
   |(refine' qO hM rfl rfl Tryz.isAgg146 Tryz.sizeOf146 rfl rfl ?_ ?_ ⟨?_,hM.below⟩;rotate_left 2;(·repeat constructor);(·rfl);(·(rw[HZ.out,tR HZ.out DQ];rfl)))
   |(refine' qO hM rfl rfl Tryz.isAgg146 Tryz.sizeOf146 rfl rfl ?_ ?_ ⟨?_,hM.below⟩;rotate_left 2;(·repeat constructor);(·rfl);(·(rw[HZ.out];unfold Yh;rw[if_pos HZ.out,HF.out,HQ.out.1,HQ.out.2];rfl)))
end Go.Proofs.YtcgpbnlhnafhjaaGreatDoor
