/-
  Lines and arcs of patterns, quarters, entries.
-/
import Derived.Test.YtiegohjobhehcaaGreatDoorMMemD
import Derived.Test.YtiegohjobhehcaaGreatDoorMTurnA
import Derived.Test.YtiegohjobhehcaaGreatDoorMLineD
import Derived.Laws.EntriesVeiled
set_option maxRecDepth 100000
set_option maxHeartbeats 16000000
namespace Go.Proofs.YtiegohjobhehcaaGreatDoor
open Go.RowKit
set_option linter.unusedVariables false
set_option linter.unusedSimpArgs false
theorem ug(ax ay bx b_y:Int)(w:World):Calls Tryz.prog 95 #[.agg #[Iv ax,Iv ay],.agg #[Iv bx,Iv b_y]] w fun e w'=>e= .returned (.agg #[.bool false,Iv ax,Iv ay,Iv bx,Iv b_y,Iv 0,Iv 0,Iv 0,Iv 0,Iv 0,Iv (zk ax ay bx b_y),Iv 0,.bool false])∧Below w.heap.size w w':=by
 have DA:=fun W=>yG ax ay bx b_y W
 obtain⟨k,hk⟩:∃k,zk ax ay bx b_y=k:=⟨_,rfl⟩;rw[hk]at DA;rw[hk];clear hk;have hM:=qo w;go_enter Tryz.func95,Tryz.ntmps95;go_upto_region 0 with fail;refine qj ?_;go_cut [4,3,2] (fun s4 s3 s2 wx=>∃go gb ga:Nat,s4= .pointer (some ⟨go,0,none⟩)∧s3= .pointer (some ⟨gb,0,none⟩)∧s2= .pointer (some ⟨ga,0,none⟩)∧qF w wx ((go,[.bool false,Iv 0,Iv 0,Iv 0,Iv 0,Iv 0,Iv 0,Iv 0,Iv 0,Iv 0,Iv 0,Iv 0,.bool false],53)::[(gb,[Iv bx,Iv b_y],26),(ga,[Iv ax,Iv ay],26)]))
 case first=>
  go_wp2_with(first|(refine qe ?_;clear hM;intro g W hM))
  all_goals
   go_meet;exact⟨_,_,_,rfl,rfl,rfl,hM⟩
 case rest=>
 clear hM;obtain⟨go,gb,ga,rfl,rfl,rfl,hM⟩:=hcut;go_upto_region 1 with(first|(refine qe ?_;clear hM;intro g W hM));refine qj ?_;refine qA [(gb,[Iv bx,Iv b_y],26),(ga,[Iv ax,Iv ay],26)] hM qM ?_;(clear hM;intro W hM);refine rD 0 ?_;refine rD 1 ?_;refine rD 2 ?_;refine rD 3 ?_;refine dC 4 (fun K' hK'=> ?_);go_wp2_with(first|(refine qt (DA _) ?_;clear hM;intro W1 hM));refine rK hK' hM ?_;clear hK' K';refine rD 5 ?_;refine dC 6 (fun K' hK'=> ?_);refine oS hM ?_;clear hM;intro W hM;refine rK hK' hM ?_;clear hK' K';refine qp qM ?_;go_wp2_with(first|(refine qe ?_;clear hM;intro g W hM))
 all_goals
  (refine' uX hM rfl rfl Tryz.isAgg53 Tryz.sizeOf53 rfl ?_ ?_ ⟨?_,hM.below⟩;rotate_left 2;(·repeat constructor);(·rfl);(·rfl))
theorem QJ(ax ay bx b_y cx cy rad f s:Int)(hf:qz f)(w:World):Calls Tryz.prog 96 #[.agg #[Iv ax,Iv ay],.agg #[Iv bx,Iv b_y],.agg #[Iv cx,Iv cy],Iv rad,Iv f,Iv s] w fun e w'=>e= .returned (.agg #[.bool true,Iv ax,Iv ay,Iv bx,Iv b_y,Iv cx,Iv cy,Iv rad,Iv (norm f),Iv s,Iv (zq cx cy rad (norm f) s),Iv 0,.bool false])∧Below w.heap.size w w':=by
 have NM:=fun W=>yS f hf W
 obtain⟨u,hu⟩:∃u,norm f=u:=⟨_,rfl⟩;rw[hu]at NM;rw[hu];clear hu;have TL:=fun W=>tH cx cy rad u s W
 obtain⟨k,hk⟩:∃k,zq cx cy rad u s=k:=⟨_,rfl⟩;rw[hk]at TL;rw[hk];clear hk;have hM:=qo w;go_enter Tryz.func96,Tryz.ntmps96;go_upto_region 0 with fail;refine qj ?_;go_cut [12,8,7,6] (fun s12 s8 s7 s6 wx=>∃go gc gb ga:Nat,s12= .pointer (some ⟨go,0,none⟩)∧s8= .pointer (some ⟨gc,0,none⟩)∧s7= .pointer (some ⟨gb,0,none⟩)∧s6= .pointer (some ⟨ga,0,none⟩)∧qF w wx ((go,[.bool false,Iv 0,Iv 0,Iv 0,Iv 0,Iv 0,Iv 0,Iv 0,Iv 0,Iv 0,Iv 0,Iv 0,.bool false],53)::[(gc,[Iv cx,Iv cy],26),(gb,[Iv bx,Iv b_y],26),(ga,[Iv ax,Iv ay],26)]))
 case first=>
  go_wp2_with(first|(refine qe ?_;clear hM;intro g W hM))
  all_goals
   go_meet;exact⟨_,_,_,_,rfl,rfl,rfl,rfl,hM⟩
 case rest=>
 clear hM;obtain⟨go,gc,gb,ga,rfl,rfl,rfl,rfl,hM⟩:=hcut;go_upto_region 1 with(first|(refine qe ?_;clear hM;intro g W hM));refine qj ?_;refine qA [(gc,[Iv cx,Iv cy],26),(gb,[Iv bx,Iv b_y],26),(ga,[Iv ax,Iv ay],26)] hM qM ?_;(clear hM;intro W hM);refine rD 0 ?_;refine rD 1 ?_;refine rD 2 ?_;refine rD 4 ?_;refine dT 3 6 (fun K' hK'=> ?_) (fun K' hK'=> ?_)
 ·
  go_wp2_with(first|refine qN (NM _) ?_);refine rK hK' hM ?_;clear hK' K';refine rD 5 ?_;refine dC 6 (fun K' hK'=> ?_);refine oN hM ?_;clear hM;intro g13 W hM;refine rK hK' hM ?_;clear hK' K';refine dC 7 (fun K' hK'=> ?_);refine oS hM ?_;clear hM;intro W hM;refine rK hK' hM ?_;clear hK' K';refine qp qM ?_;go_upto_region 2 with(first|(refine qe ?_;clear hM;intro g W hM));refine qj ?_;refine qA [(gc,[Iv cx,Iv cy],26),(gb,[Iv bx,Iv b_y],26),(ga,[Iv ax,Iv ay],26),(g13,[Iv cx,Iv cy,Iv rad,Iv u,Iv s],51)] hM qM ?_;(clear hM;intro W hM);refine rD 0 ?_;refine rD 1 ?_;refine rD 2 ?_;refine rD 3 ?_;refine dC 4 (fun K' hK'=> ?_);go_wp2_with(first|(refine qt (TL _) ?_;clear hM;intro W1 hM));refine rK hK' hM ?_;clear hK' K';refine rD 5 ?_;refine dC 6 (fun K' hK'=> ?_);refine oS hM ?_;clear hM;intro W hM;refine rK hK' hM ?_;clear hK' K';refine qp qM ?_;go_wp2_with(first|(refine qe ?_;clear hM;intro g W hM))
  all_goals
   (refine' uX hM rfl rfl Tryz.isAgg53 Tryz.sizeOf53 rfl ?_ ?_ ⟨?_,hM.below⟩;rotate_left 2;(·repeat constructor);(·rfl);(·rfl))
 ·
  refine oN hM ?_;clear hM;intro g13 W hM;refine rK hK' hM ?_;clear hK' K';refine dC 3 (fun K' hK'=> ?_);go_wp2_with(first|refine qN (NM _) ?_);refine rK hK' hM ?_;clear hK' K';refine rD 5 ?_;refine dC 7 (fun K' hK'=> ?_);refine oS hM ?_;clear hM;intro W hM;refine rK hK' hM ?_;clear hK' K';refine qp qM ?_;go_upto_region 2 with(first|(refine qe ?_;clear hM;intro g W hM));refine qj ?_;refine qA [(gc,[Iv cx,Iv cy],26),(gb,[Iv bx,Iv b_y],26),(ga,[Iv ax,Iv ay],26),(g13,[Iv cx,Iv cy,Iv rad,Iv u,Iv s],51)] hM qM ?_;(clear hM;intro W hM);refine rD 0 ?_;refine rD 1 ?_;refine rD 2 ?_;refine rD 3 ?_;refine dC 4 (fun K' hK'=> ?_);go_wp2_with(first|(refine qt (TL _) ?_;clear hM;intro W1 hM));refine rK hK' hM ?_;clear hK' K';refine rD 5 ?_;refine dC 6 (fun K' hK'=> ?_);refine oS hM ?_;clear hM;intro W hM;refine rK hK' hM ?_;clear hK' K';refine qp qM ?_;go_wp2_with(first|(refine qe ?_;clear hM;intro g W hM))
  all_goals
   (refine' uX hM rfl rfl Tryz.isAgg53 Tryz.sizeOf53 rfl ?_ ?_ ⟨?_,hM.below⟩;rotate_left 2;(·repeat constructor);(·rfl);(·rfl))
theorem KX(tn:Int)(w:World):Calls Tryz.prog 93 #[.int .u8 tn] w fun e w'=>e= .returned (Iv (Yg tn))∧w=w':=by
 by_cases h:tn=2
 ·have e:Yg tn=32400000:=by unfold Yg;rw[if_pos h]
  rw[e];have h2:(tn==2)=true:=by simpa using h
  clear h e;go_enter Tryz.func93,Tryz.ntmps93;go_wp2
  all_goals
   go_ret;exact⟨rfl,rfl⟩
 ·have e:Yg tn= -32400000:=by unfold Yg;rw[if_neg h]
  rw[e];have h2:(tn==2)=false:=by simpa using h
  clear h e;go_enter Tryz.func93,Tryz.ntmps93;go_wp2
  all_goals
   go_ret;exact⟨rfl,rfl⟩
def Jt(w:Int):Int:=if w<25200000 then 3 else if w≥90000000 then 2 else 1
theorem NP(c inb tn:Int)(ht:tn=1∨tn=2)(hc:qz c)(hi:qz inb)(w:World):Calls Tryz.prog 44 #[Iv c,Iv inb,.int .u8 tn] w fun e w'=>e= .returned (.int .u8 (Jt (Jj c inb tn)))∧w=w':=by
 have N1:=fun W=>yS c hc W
 have N2:=fun W=>yS inb hi W
 have b1:=jP c;have b2:=jP inb;have b3:=jP (norm inb+64800000);have N3:=fun W=>yS (norm inb+64800000) yq W
 have hw:=hide (show Jj c inb tn=if tn=2 then norm (norm (norm inb+64800000)-norm c)else norm (norm c-norm (norm inb+64800000))from rfl);generalize norm (norm inb+64800000)=o at*;generalize norm c=u at*;generalize norm inb=v at*;obtain⟨q,hq⟩:∃q,Jj c inb tn=q:=⟨_,rfl⟩;rw[hq]at hw;rw[hq];have w1:=IntWalk.i64_in (v+64800000) qg;have w2:=IntWalk.i64_in (o-u) qg;have w3:=IntWalk.i64_in (u-o) qg;have hk:Hid (Jt q=if q<25200000 then 3 else if q≥90000000 then 2 else 1):=hide rfl;obtain⟨kk,hkk⟩:∃kk,Jt q=kk:=⟨_,rfl⟩;rw[hkk]at hk;rw[hkk];clear hq hkk;rcases ht with rfl|rfl
 ·have N4:=fun W=>yS (u-o) yq W
  have hq2:q=norm (u-o):=by rw[hw.out,if_neg qG]
  rw[←hq2]at N4;clear hq2 hw;go_enter Tryz.func44,Tryz.ntmps44;go_wp2_with(first|refine qN (N1 _) ?_|refine qN (N2 _) ?_|refine qN (N3 _) ?_|refine qN (N4 _) ?_)
  all_goals
   go_ret;exact⟨by first|(rw[hk.out,if_pos qg];rfl)|(rw[hk.out,if_neg qg,if_pos qg];rfl)|(rw[hk.out,if_neg qg,if_neg qg];rfl),rfl⟩
 ·have N4:=fun W=>yS (o-u) yq W
  have hq2:q=norm (o-u):=by rw[hw.out,if_pos rfl]
  rw[←hq2]at N4;clear hq2 hw;go_enter Tryz.func44,Tryz.ntmps44;go_wp2_with(first|refine qN (N1 _) ?_|refine qN (N2 _) ?_|refine qN (N3 _) ?_|refine qN (N4 _) ?_)
  all_goals
   go_ret;exact⟨by first|(rw[hk.out,if_pos qg];rfl)|(rw[hk.out,if_neg qg,if_pos qg];rfl)|(rw[hk.out,if_neg qg,if_neg qg];rfl),rfl⟩
def Gj(fx fy inb tn leg rad:Int):List Value:=if bS fx fy inb tn leg rad=0 then(let s:=QC fx fy inb tn leg rad;[Iv fx,Iv fy,Iv s.x1,Iv s.y1,Iv s.x2,Iv s.y2,Iv s.x3,Iv s.y3,Iv s.cx,Iv s.cy,Iv s.dx,Iv s.dy,Iv (uR inb tn),Iv rad,Iv (2*Yg tn)])else[Iv 0,Iv 0,Iv 0,Iv 0,Iv 0,Iv 0,Iv 0,Iv 0,Iv 0,Iv 0,Iv 0,Iv 0,Iv 0,Iv 0,Iv 0]
theorem uG{fx fy inb tn leg rad e:Int}(h:bS fx fy inb tn leg rad=e)(he:e≠0):Gj fx fy inb tn leg rad=[Iv 0,Iv 0,Iv 0,Iv 0,Iv 0,Iv 0,Iv 0,Iv 0,Iv 0,Iv 0,Iv 0,Iv 0,Iv 0,Iv 0,Iv 0]:=by unfold Gj;rw[if_neg (by rw[h];exact he)]
theorem wH{px py c d x y e:Int}(h:zn px py c d=(x,y,e)):(-2000000≤x∧x≤2000000)∧(-2000000≤y∧y≤2000000):=by
 have hx:(zn px py c d).1=x:=by rw[h]
 have hy:(zn px py c d).2.1=y:=by rw[h]
 by_cases h0:(zn px py c d).2.2=0
 ·have:=jX (br h0);rw[hx,hy]at this;omega
 ·unfold zn at hx hy h0;split at h0
  ·rename_i h1;rw[if_pos h1]at hx hy;subst hx hy;decide
  ·rename_i h1;rw[if_neg h1]at hx hy;split at h0
   ·rename_i h2;rw[if_pos h2]at hx hy;subst hx hy;decide
   ·rename_i h2;rw[if_neg h2]at hx hy;split at h0
    ·exact absurd rfl h0
    ·rename_i h3;rw[if_neg h3]at hx hy;subst hx hy;decide
theorem iJ{fx fy inb tn leg rad:Int}(h:(qw fx fy&&(decide (tn=1)||decide (tn=2)))=false):bS fx fy inb tn leg rad=1:=by unfold bS;rw[if_pos h]
theorem iK{fx fy inb tn leg rad:Int}(h:(qw fx fy&&(decide (tn=1)||decide (tn=2)))=true)(h2:inb<0∨inb≥129600000∨leg<1∨leg>2000000∨rad<1∨rad>2000000):bS fx fy inb tn leg rad=2:=by unfold bS;rw[if_neg (by rw[h];simp),if_pos h2]
theorem fL{fx fy inb tn leg rad cx cy e1 x1 y1 e2 x3 y3 e3:Int}(h:(qw fx fy&&(decide (tn=1)||decide (tn=2)))=true)(h2:¬(inb<0∨inb≥129600000∨leg<1∨leg>2000000∨rad<1∨rad>2000000))
 (r1:zn fx fy (uR inb tn) rad=(cx,cy,e1)) (r2:zn fx fy (uR inb tn) (2*rad)=(x1,y1,e2)) (r3:zn fx fy (inb+64800000) leg=(x3,y3,e3)):
 (bS fx fy inb tn leg rad=if(e1=0∧e2=0∧e3=0∧qw (x1+x3-fx) (y1+y3-fy)=true∧qw (cx+x3-fx) (cy+y3-fy)=true)then 0 else 2)∧
 QC fx fy inb tn leg rad=⟨x1,y1,x1+x3-fx,y1+y3-fy,x3,y3,cx,cy,cx+x3-fx,cy+y3-fy⟩:=by
 refine⟨?_,?_⟩
 ·unfold bS;rw[if_neg (by rw[h];simp),if_neg h2,r1,r2,r3]
 ·unfold QC;rw[r1,r2,r3]
theorem jA{w W:World}{L:List qZ}{g i:Nat}{v:Value}{cs:List Value}{t:TypeId}(hM:qF w W L)(hl:Lk L g cs t:=by((repeat constructor)<;>fail))(hv:cs[i]? =some v:=by rfl):W.cell? ⟨g,i,none⟩=some v:=(hM.cell hl i).trans hv
theorem aO{ops:Array Oper}{Q:Exit→Act→World→Prop}{a:Act}{w W:World}{L:List qZ}{rest:List Oper}{o:Oper}{v:Value}{ty:TypeId}{x:Operand}{g off:Nat}(hM:qF w W L)(hgd:o.guard=none)(ho:o.op= .load ty x)(hc:w.cell? ⟨g,off,none⟩=some v)(h:wpList Tryz.prog ops Q rest (a.put o.dst v) W)
 (hx:a.eval x= .pointer (some ⟨g,off,none⟩):=by rfl) (hg:Jw.contains ty=true:=by rfl):wpList Tryz.prog ops Q (o::rest) a W:=jr hM hgd ho hx (ur hg) hc h
theorem bU(px py x3 y3 fx fy:Int)(gs gf:Nat)(w:World)(hp:(-2000000≤px∧px≤2000000)∧(-2000000≤py∧py≤2000000))(h3:(-2000000≤x3∧x3≤2000000)∧(-2000000≤y3∧y3≤2000000))(hf: -2000000≤fx∧fx≤2000000∧ -2000000≤fy∧fy≤2000000)
 (c6:w.cell? ⟨gs,6,none⟩=some (Iv x3)) (c7:w.cell? ⟨gs,7,none⟩=some (Iv y3)) (f0:w.cell? ⟨gf,0,none⟩=some (Iv fx)) (f1:w.cell? ⟨gf,1,none⟩=some (Iv fy)):
 Calls Tryz.prog 167 #[.agg #[Iv px,Iv py],.pointer (some ⟨gs,0,none⟩),.pointer (some ⟨gf,0,none⟩)] w fun e w'=>e= .returned (.agg #[Iv (px+x3-fx),Iv (py+y3-fy)])∧Below w.heap.size w w':=by
 have w1:=IntWalk.i64_in (px+x3) qg;have w2:=IntWalk.i64_in (px+x3-fx) qg;have w3:=IntWalk.i64_in (py+y3) qg;have w4:=IntWalk.i64_in (py+y3-fy) qg;have hM:=qo w;go_enter Tryz.func167,Tryz.ntmps167;go_wp2_with(first|((with_reducible refine lX ?_);refine aO hM rfl rfl c6 ?_)|((with_reducible refine lX ?_);refine aO hM rfl rfl c7 ?_)|((with_reducible refine lX ?_);refine aO hM rfl rfl f0 ?_)|((with_reducible refine lX ?_);refine aO hM rfl rfl f1 ?_)|(refine qe ?_;clear hM;intro g W hM))
 all_goals
  (refine' uX hM rfl rfl Tryz.isAgg26 Tryz.sizeOf26 rfl ?_ ?_ ⟨?_,hM.below⟩;rotate_left 2;(·repeat constructor);(·rfl);(·rfl))
theorem VF(fx fy inb tn leg rad:Int)(w:World):
 Calls Tryz.prog 97 #[.agg #[Iv fx,Iv fy],Iv inb,.int .u8 tn,Iv leg,Iv rad] w fun e w'=>e= .returned (.tuple #[.agg (Gj fx fy inb tn leg rad).toArray,Iv (bS fx fy inb tn leg rad)])∧Below w.heap.size w w':=by
 have PV:=fun W=>qE fx fy W
 obtain⟨p0,hp0⟩:∃p0,qw fx fy=p0:=⟨_,rfl⟩;rw[hp0]at PV;by_cases ht:p0=true∧(tn=1∨tn=2);rotate_left 1
 ·have HE:bS fx fy inb tn leg rad=1:=iJ (by
   rw[hp0];rcases hq:p0 with _|_
   ·rfl
   ·have h1:tn≠1:=fun h=>ht ⟨hq,.inl h⟩
    have h2:tn≠2:=fun h=>ht ⟨hq,.inr h⟩
    simp[h1,h2])
  have hcs:p0=false∨(p0=true∧(tn !=1)=true∧(tn !=2)=true):=by
   rcases hq:p0 with _|_
   ·exact .inl rfl
   ·have h1:tn≠1:=fun h=>ht ⟨hq,.inl h⟩
    have h2:tn≠2:=fun h=>ht ⟨hq,.inr h⟩
    exact .inr ⟨rfl,by simpa using h1,by simpa using h2⟩
  have HE:=hide HE;clear ht hp0;have hM:=qo w;rcases hcs with rfl|⟨rfl,t1,t2⟩
  all_goals
   go_enter Tryz.func97,Tryz.ntmps97;go_wp2_with(first|(refine qe ?_;clear hM;intro g W hM)|(refine qt (PV _) ?_;clear hM;intro W1 hM))
   all_goals
    (refine' qU hM rfl rfl Tryz.isAgg182 Tryz.sizeOf182 rfl rfl ?_ ?_ ⟨?_,hM.below⟩;rotate_left 2;(·repeat constructor);(·rfl);(·(rw[HE.out,uG HE.out qG];rfl)))
 obtain⟨rfl,ht⟩:=ht
 have HV:=hide (show(qw fx fy&&(decide (tn=1)||decide (tn=2)))=true by
  rw[hp0]
  rcases ht with rfl|rfl<;>rfl)
 have hfb:=jX hp0;clear hp0;have hM:=qo w;go_enter Tryz.func97,Tryz.ntmps97;go_upto_region 0 with fail;refine qj ?_;go_cut [10,5] (fun s10 s5 wx=>∃gO gF:Nat,s10= .pointer (some ⟨gO,0,none⟩)∧s5= .pointer (some ⟨gF,0,none⟩)∧qF w wx [(gO,[Iv 0,Iv 0,Iv 0,Iv 0,Iv 0,Iv 0,Iv 0,Iv 0,Iv 0,Iv 0,Iv 0,Iv 0,Iv 0,Iv 0,Iv 0],182),(gF,[Iv fx,Iv fy],26)])
 case first=>
  go_wp2_with(first|(refine qe ?_;clear hM;intro g W hM))
  all_goals
   go_meet;exact⟨_,_,rfl,rfl,hM⟩
 case rest=>
 clear hM;obtain⟨gO,gF,rfl,rfl,hM⟩:=hcut;go_upto_region 1 with(first|(refine qe ?_;clear hM;intro g W hM));go_cut [17] (fun s wx=>s= .bool false∧qF w wx [(gO,[Iv 0,Iv 0,Iv 0,Iv 0,Iv 0,Iv 0,Iv 0,Iv 0,Iv 0,Iv 0,Iv 0,Iv 0,Iv 0,Iv 0,Iv 0],182),(gF,[Iv fx,Iv fy],26)])
 case first=>
  have hcs:((tn !=1)=true∧(tn !=2)=false)∨(tn !=1)=false:=by
   rcases ht with rfl|rfl
   ·exact .inr rfl
   ·exact .inl ⟨rfl,rfl⟩
  rcases hcs with⟨t1,t2⟩|t1
  all_goals
   go_wp2_with(first|(refine qe ?_;clear hM;intro g W hM)|(refine qt (PV _) ?_;clear hM;intro W1 hM))
   all_goals
    go_meet;exact⟨rfl,hM⟩
 case rest=>
 clear hM;obtain⟨rfl,hM⟩:=hcut;clear PV;by_cases hr:inb<0∨inb≥129600000∨leg<1∨leg>2000000∨rad<1∨rad>2000000
 ·have HE:=hide (iK (inb:=inb) (leg:=leg) (rad:=rad) HV.out hr);by_cases r1:inb<0
  ·clear hr;go_wp2_with(first|(refine qe ?_;clear hM;intro g W hM))
   all_goals(refine' qU hM rfl rfl Tryz.isAgg182 Tryz.sizeOf182 rfl rfl ?_ ?_ ⟨?_,hM.below⟩;rotate_left 2;(·repeat constructor);(·rfl);(·(rw[HE.out,uG HE.out qG];rfl)))
  by_cases r2:129600000≤inb
  ·clear hr;go_wp2_with(first|(refine qe ?_;clear hM;intro g W hM))
   all_goals(refine' qU hM rfl rfl Tryz.isAgg182 Tryz.sizeOf182 rfl rfl ?_ ?_ ⟨?_,hM.below⟩;rotate_left 2;(·repeat constructor);(·rfl);(·(rw[HE.out,uG HE.out qG];rfl)))
  by_cases r3:leg<1
  ·clear hr;go_wp2_with(first|(refine qe ?_;clear hM;intro g W hM))
   all_goals(refine' qU hM rfl rfl Tryz.isAgg182 Tryz.sizeOf182 rfl rfl ?_ ?_ ⟨?_,hM.below⟩;rotate_left 2;(·repeat constructor);(·rfl);(·(rw[HE.out,uG HE.out qG];rfl)))
  by_cases r4:2000000<leg
  ·clear hr;go_wp2_with(first|(refine qe ?_;clear hM;intro g W hM))
   all_goals(refine' qU hM rfl rfl Tryz.isAgg182 Tryz.sizeOf182 rfl rfl ?_ ?_ ⟨?_,hM.below⟩;rotate_left 2;(·repeat constructor);(·rfl);(·(rw[HE.out,uG HE.out qG];rfl)))
  by_cases r5:rad<1
  ·clear hr;go_wp2_with(first|(refine qe ?_;clear hM;intro g W hM))
   all_goals(refine' qU hM rfl rfl Tryz.isAgg182 Tryz.sizeOf182 rfl rfl ?_ ?_ ⟨?_,hM.below⟩;rotate_left 2;(·repeat constructor);(·rfl);(·(rw[HE.out,uG HE.out qG];rfl)))
  have r6:2000000<rad:=qg;clear hr;go_wp2_with(first|(refine qe ?_;clear hM;intro g W hM))
  all_goals(refine' qU hM rfl rfl Tryz.isAgg182 Tryz.sizeOf182 rfl rfl ?_ ?_ ⟨?_,hM.below⟩;rotate_left 2;(·repeat constructor);(·rfl);(·(rw[HE.out,uG HE.out qG];rfl)))
 have HRG:=hide hr;have r1:¬inb<0:=qg;have r2:¬129600000≤inb:=qg;have r3:¬leg<1:=qg;have r4:¬2000000<leg:=qg;have r5:¬rad<1:=qg;have r6:¬2000000<rad:=qg;clear hr;have QT:=fun W=>KX tn W
 have qb:Yg tn=32400000∨Yg tn= -32400000:=by unfold Yg;split<;>omega
 obtain⟨q,hq⟩:∃q,Yg tn=q:=⟨_,rfl⟩;rw[hq]at QT qb;obtain⟨U,hU⟩:∃U,uR inb tn=U:=⟨_,rfl⟩;have hU2:inb+q=U:=by rw[←hq];exact hU
 have w1:IntKind.i64.wrap (inb+q)=U:=by rw[hU2];exact IntWalk.i64_in U qg
 have w2:=IntWalk.i64_in (2*q) qg;have w3:=IntWalk.i64_in (2*rad) qg;have w4:=IntWalk.i64_in (inb+64800000) qg;obtain⟨cx,cy,e1,h1⟩:∃cx cy e1,zn fx fy (uR inb tn) rad=(cx,cy,e1):=⟨_,_,_,rfl⟩;obtain⟨x1,y1,e2,h2⟩:∃x1 y1 e2,zn fx fy (uR inb tn) (2*rad)=(x1,y1,e2):=⟨_,_,_,rfl⟩;obtain⟨x3,y3,e3,h3⟩:∃x3 y3 e3,zn fx fy (inb+64800000) leg=(x3,y3,e3):=⟨_,_,_,rfl⟩;obtain⟨HE1,HF1⟩:=fL HV.out HRG.out h1 h2 h3;have HE:=hide HE1;have HF:=hide HF1;have b1:=wH h1;have b2:=wH h2;have b3:=wH h3;rw[hU]at h1 h2;have R1:=fun W=>jY fx fy U rad yq yq W _ h1.symm
 have R2:=fun W=>jY fx fy U (2*rad) yq yq W _ h2.symm
 have R3:=fun W=>jY fx fy (inb+64800000) leg yq yq W _ h3.symm
 have HQ:=hide (And.intro hq hU);clear h1 h2 h3 HE1 HF1 hq hU hU2 HV HRG;go_upto_region 12 with(first|(refine qe ?_;clear hM;intro g W hM)|refine qN (QT _) ?_|(refine qt (R1 _) ?_;clear hM;intro W1 hM)|(refine qt (R2 _) ?_;clear hM;intro W1 hM)|(refine qt (R3 _) ?_;clear hM;intro W1 hM));refine qj ?_;obtain⟨g,rfl⟩:=uC hM;go_cut [] (fun wx=>qF w wx [(g,[Iv fx,Iv fy,Iv x1,Iv y1,Iv (x1+x3-fx),Iv (y1+y3-fy),Iv x3,Iv y3,Iv cx,Iv cy,Iv (cx+x3-fx),Iv (cy+y3-fy),Iv U,Iv rad,Iv (2*q)],182),(gO,[Iv 0,Iv 0,Iv 0,Iv 0,Iv 0,Iv 0,Iv 0,Iv 0,Iv 0,Iv 0,Iv 0,Iv 0,Iv 0,Iv 0,Iv 0],182),(gF,[Iv fx,Iv fy],26)])
 case first=>
  refine qA [(gF,[Iv fx,Iv fy],26)] hM qM ?_;(clear hM;intro W hM);refine rD 0 ?_;refine rD 1 ?_;refine rD 2 ?_;refine rD 5 ?_;refine rD 6 ?_;refine rD 9 ?_;refine dT 3 7 (fun K' hK'=> ?_) (fun K' hK'=> ?_)
  ·
   first|refine oL hM ?_|refine oM hM ?_
   refine rK hK' hM ?_;clear hK' K';refine dT 4 7 (fun K' hK'=> ?_) (fun K' hK'=> ?_)
   ·
    go_wp2_with(first|(go_at_call 167;(with_reducible refine cb hM (bU x1 y1 x3 y3 fx fy g gF _ b2 b3 hfb ?_ ?_ ?_ ?_) ?_);(·exact jA hM);(·exact jA hM);(·exact jA hM);(·exact jA hM);clear hM;intro W1 hM)|(go_at_call 167;(with_reducible refine cb hM (bU cx cy x3 y3 fx fy g gF _ b1 b3 hfb ?_ ?_ ?_ ?_) ?_);(·exact jA hM);(·exact jA hM);(·exact jA hM);(·exact jA hM);clear hM;intro W1 hM));refine rK hK' hM ?_;clear hK' K';refine dC 7 (fun K' hK'=> ?_)
    first|refine oL hM ?_|refine oM hM ?_
    refine rK hK' hM ?_;clear hK' K';refine rD 10 ?_;refine dC 8 (fun K' hK'=> ?_);go_wp2_with(first|(go_at_call 167;(with_reducible refine cb hM (bU x1 y1 x3 y3 fx fy g gF _ b2 b3 hfb ?_ ?_ ?_ ?_) ?_);(·exact jA hM);(·exact jA hM);(·exact jA hM);(·exact jA hM);clear hM;intro W1 hM)|(go_at_call 167;(with_reducible refine cb hM (bU cx cy x3 y3 fx fy g gF _ b1 b3 hfb ?_ ?_ ?_ ?_) ?_);(·exact jA hM);(·exact jA hM);(·exact jA hM);(·exact jA hM);clear hM;intro W1 hM));refine rK hK' hM ?_;clear hK' K';refine dC 11 (fun K' hK'=> ?_);refine oS hM ?_;clear hM;intro W hM;refine rK hK' hM ?_;clear hK' K';refine rD 12 ?_;refine dC 13 (fun K' hK'=> ?_);refine oS hM ?_;clear hM;intro W hM;refine rK hK' hM ?_;clear hK' K';refine qp qM ?_;go_wp2_with fail
    all_goals
     go_meet;exact hM
   ·
    first|refine oL hM ?_|refine oM hM ?_
    refine rK hK' hM ?_;clear hK' K';refine dC 4 (fun K' hK'=> ?_);go_wp2_with(first|(go_at_call 167;(with_reducible refine cb hM (bU x1 y1 x3 y3 fx fy g gF _ b2 b3 hfb ?_ ?_ ?_ ?_) ?_);(·exact jA hM);(·exact jA hM);(·exact jA hM);(·exact jA hM);clear hM;intro W1 hM)|(go_at_call 167;(with_reducible refine cb hM (bU cx cy x3 y3 fx fy g gF _ b1 b3 hfb ?_ ?_ ?_ ?_) ?_);(·exact jA hM);(·exact jA hM);(·exact jA hM);(·exact jA hM);clear hM;intro W1 hM));refine rK hK' hM ?_;clear hK' K';refine rD 10 ?_;refine dC 8 (fun K' hK'=> ?_);go_wp2_with(first|(go_at_call 167;(with_reducible refine cb hM (bU x1 y1 x3 y3 fx fy g gF _ b2 b3 hfb ?_ ?_ ?_ ?_) ?_);(·exact jA hM);(·exact jA hM);(·exact jA hM);(·exact jA hM);clear hM;intro W1 hM)|(go_at_call 167;(with_reducible refine cb hM (bU cx cy x3 y3 fx fy g gF _ b1 b3 hfb ?_ ?_ ?_ ?_) ?_);(·exact jA hM);(·exact jA hM);(·exact jA hM);(·exact jA hM);clear hM;intro W1 hM));refine rK hK' hM ?_;clear hK' K';refine dC 11 (fun K' hK'=> ?_);refine oS hM ?_;clear hM;intro W hM;refine rK hK' hM ?_;clear hK' K';refine rD 12 ?_;refine dC 13 (fun K' hK'=> ?_);refine oS hM ?_;clear hM;intro W hM;refine rK hK' hM ?_;clear hK' K';refine qp qM ?_;go_wp2_with fail
    all_goals
     go_meet;exact hM
  ·
   first|refine oL hM ?_|refine oM hM ?_
   refine rK hK' hM ?_;clear hK' K';refine dC 3 (fun K' hK'=> ?_)
   first|refine oL hM ?_|refine oM hM ?_
   refine rK hK' hM ?_;clear hK' K';refine dC 4 (fun K' hK'=> ?_);go_wp2_with(first|(go_at_call 167;(with_reducible refine cb hM (bU x1 y1 x3 y3 fx fy g gF _ b2 b3 hfb ?_ ?_ ?_ ?_) ?_);(·exact jA hM);(·exact jA hM);(·exact jA hM);(·exact jA hM);clear hM;intro W1 hM)|(go_at_call 167;(with_reducible refine cb hM (bU cx cy x3 y3 fx fy g gF _ b1 b3 hfb ?_ ?_ ?_ ?_) ?_);(·exact jA hM);(·exact jA hM);(·exact jA hM);(·exact jA hM);clear hM;intro W1 hM));refine rK hK' hM ?_;clear hK' K';refine rD 10 ?_;refine dC 8 (fun K' hK'=> ?_);go_wp2_with(first|(go_at_call 167;(with_reducible refine cb hM (bU x1 y1 x3 y3 fx fy g gF _ b2 b3 hfb ?_ ?_ ?_ ?_) ?_);(·exact jA hM);(·exact jA hM);(·exact jA hM);(·exact jA hM);clear hM;intro W1 hM)|(go_at_call 167;(with_reducible refine cb hM (bU cx cy x3 y3 fx fy g gF _ b1 b3 hfb ?_ ?_ ?_ ?_) ?_);(·exact jA hM);(·exact jA hM);(·exact jA hM);(·exact jA hM);clear hM;intro W1 hM));refine rK hK' hM ?_;clear hK' K';refine dC 11 (fun K' hK'=> ?_);refine oS hM ?_;clear hM;intro W hM;refine rK hK' hM ?_;clear hK' K';refine rD 12 ?_;refine dC 13 (fun K' hK'=> ?_);refine oS hM ?_;clear hM;intro W hM;refine rK hK' hM ?_;clear hK' K';refine qp qM ?_;go_wp2_with fail
   all_goals
    go_meet;exact hM
 case rest=>
 clear hM;have hM:=hcut;clear hcut;have PA:=fun W=>qE (x1+x3-fx) (y1+y3-fy) W
 have PB:=fun W=>qE (cx+x3-fx) (cy+y3-fy) W
 obtain⟨va,hva⟩:∃va,qw (x1+x3-fx) (y1+y3-fy)=va:=⟨_,rfl⟩;obtain⟨vb,hvb⟩:∃vb,qw (cx+x3-fx) (cy+y3-fy)=vb:=⟨_,rfl⟩;rw[hva]at PA;rw[hvb]at PB;have HE2:Hid (bS fx fy inb tn leg rad=if(e1=0∧e2=0∧e3=0∧va=true∧vb=true)then 0 else 2):=hide (by rw[HE.out,hva,hvb]);clear HE hva hvb;by_cases hg:e1=0∧e2=0∧e3=0∧va=true∧vb=true
 ·have HZ:=hide (HE2.out.trans (if_pos hg));obtain⟨rfl,rfl,rfl,rfl,rfl⟩:=hg;clear HE2;go_wp2_with(first|(refine qe ?_;clear hM;intro g W hM)|(refine qt (PA _) ?_;clear hM;intro W1 hM)|(refine qt (PB _) ?_;clear hM;intro W1 hM))
  all_goals
   (refine' qU hM rfl rfl Tryz.isAgg182 Tryz.sizeOf182 rfl rfl ?_ ?_ ⟨?_,hM.below⟩;rotate_left 2;(·repeat constructor);(·rfl);(·(rw[HZ.out];unfold Gj;rw[if_pos HZ.out,HF.out,HQ.out.1,HQ.out.2];rfl)))
 ·have HZ:=hide (HE2.out.trans (if_neg hg));clear HE2
  have hcs:(e1 !=0)=true∨((e1 !=0)=false∧(e2 !=0)=true)∨((e1 !=0)=false∧(e2 !=0)=false∧(e3 !=0)=true)∨((e1 !=0)=false∧(e2 !=0)=false∧(e3 !=0)=false∧va=false)∨((e1 !=0)=false∧(e2 !=0)=false∧(e3 !=0)=false∧va=true∧vb=false):=by
   by_cases z1:e1=0
   ·by_cases z2:e2=0
    ·by_cases z3:e3=0
     ·rcases hva:va with _|_
      ·exact .inr (.inr (.inr (.inl ⟨by simpa using z1,by simpa using z2,by simpa using z3,rfl⟩)))
      ·rcases hvb:vb with _|_
       ·exact .inr (.inr (.inr (.inr ⟨by simpa using z1,by simpa using z2,by simpa using z3,rfl,rfl⟩)))
       ·exact absurd ⟨z1,z2,z3,hva,hvb⟩ hg
     ·exact .inr (.inr (.inl ⟨by simpa using z1,by simpa using z2,by simpa using z3⟩))
    ·exact .inr (.inl ⟨by simpa using z1,by simpa using z2⟩)
   ·exact .inl (by simpa using z1)
  clear hg;rcases hcs with z|⟨z,z2⟩|⟨z,z2,z3⟩|⟨z,z2,z3,rfl⟩|⟨z,z2,z3,rfl,rfl⟩
  all_goals
   go_wp2_with(first|(refine qe ?_;clear hM;intro g W hM)|(refine qt (PA _) ?_;clear hM;intro W1 hM)|(refine qt (PB _) ?_;clear hM;intro W1 hM))
   all_goals
    (refine' qU hM rfl rfl Tryz.isAgg182 Tryz.sizeOf182 rfl rfl ?_ ?_ ⟨?_,hM.below⟩;rotate_left 2;(·repeat constructor);(·rfl);(·(rw[HZ.out,uG HZ.out qG];rfl)))
end Go.Proofs.YtiegohjobhehcaaGreatDoor
