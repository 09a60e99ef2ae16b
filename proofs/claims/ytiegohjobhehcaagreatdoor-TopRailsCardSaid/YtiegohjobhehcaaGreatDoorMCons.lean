/-
  Windows and steps: the check.
-/
import Derived.Test.YtiegohjobhehcaaGreatDoorMPrRow
set_option maxRecDepth 100000
set_option maxHeartbeats 16000000
namespace Go.Proofs.YtiegohjobhehcaaGreatDoor
open Go.RowKit
set_option linter.unusedVariables false
set_option linter.unusedSimpArgs false
theorem KR(n lo hi:Int)(w:World):Calls Tryz.prog 208 #[Iv n,Iv lo,Iv hi] w (bR (fun b:Bool=> .bool b) (fun b=>Hid (b=true↔(lo≤n∧n≤hi))) w):=by
 by_cases h1:lo≤n<;>by_cases h2:n≤hi
 all_goals
  go_enter Tryz.func208,Tryz.ntmps208;go_wp2
  all_goals
   go_ret;exact⟨_,rfl,hide (by simp<;>omega),Below.refl _ _⟩
theorem ef{p:Prop}(h:true=true↔p):p:=h.1 rfl
def W2(x:Int×Int):Prop:=(-1099511627776≤x.1∧x.1≤1099511627776)∧ -1099511627776≤x.2∧x.2≤1099511627776
def S2(x:Int×Int):Prop:=(0≤x.1∧x.1≤1099511627776)∧0≤x.2∧x.2≤1099511627776
structure Ac(n m:Nat)(f g:Nat→Int×Int):Prop where
 le:n≤64
 eq:m=n-1
 ws:∀k,k<n→W2 (f k)
 st:∀k,k<m→S2 (g k)
theorem ek{p:Nat→Prop}{k:Nat}(h:∀j,j<k→p j)(hk:p k):∀j,j<k+1→p j:=fun j hj=>by
 rcases Nat.lt_or_ge j k with q|q
 ·exact h j q
 ·obtain rfl:j=k:=qg;exact hk
theorem eu{p:Int×Int→Prop}{l:List (Int×Int)}(h:∀k,k<l.length→p (pq l k)):∀x∈l,p x:=by
 intro x hx;obtain⟨k,hk,e⟩:=List.getElem_of_mem hx;have:=h k hk;unfold pq at this
 rwa[List.getD_eq_getElem?_getD,List.getElem?_eq_getElem hk,Option.getD_some,e]at this
theorem Vz(S T:Option Addr)(n m c d:Nat)(f g:Nat→Int×Int)(w:World)(hn:n≤9223372036854775807)(hm:m≤9223372036854775807)(HS:Hid (zY w S n f))(HT:Hid (zY w T m g)):Calls Tryz.prog 174 #[.slice S n c,.slice T m d] w (bR (fun q:Int=>Iv q) (fun q=>qz q∧(q=0→Ac n m f g)) w):=by
 have hM:=qo w;by_cases h1:n≤64;rotate_left
 ·have e1:(64:Int)<(n:Int):=qg;go_enter Tryz.func174,Tryz.ntmps174;go_wp2_with(first|(refine qe ?_;clear hM;intro g W hM))
  all_goals(go_ret;exact⟨_,rfl,⟨by exact⟨qG,qG⟩,fun h=>absurd h qG⟩,hM.below⟩)
 have wn:=IntWalk.i64_in ((n:Int)-1) qg;have e0:decide ((64:Int)<(n:Int))=false:=decide_eq_false qg;by_cases h2:(m:Int)=max ((n:Int)-1) 0;rotate_left
 ·have e1:((m:Int) !=max ((n:Int)-1) 0)=true:=by simpa using h2
  clear h2;go_enter Tryz.func174,Tryz.ntmps174;go_wp2_with(first|(refine qe ?_;clear hM;intro g W hM))
  all_goals(go_ret;exact⟨_,rfl,⟨by exact⟨qG,qG⟩,fun h=>absurd h qG⟩,hM.below⟩)
 have e1:((m:Int) !=max ((n:Int)-1) 0)=false:=by simpa using h2
 have hmn:=hide (show m=n-1 by omega);clear h2;go_enter Tryz.func174,Tryz.ntmps174;go_wp2_with(first|(refine qe ?_;clear hM;intro g W hM));go_loopw [23] (fun s wx=>∃k:Nat,k≤n∧s=Iv k∧Hid (∀j,j<k→W2 (f j))∧qF w wx []) (fun s _=>n-(intOf s).toNat)
 case atStart=>exact⟨0,by omega,rfl,hide (fun j hj=>absurd hj qg),hM⟩
 case round=>
  clear hM;obtain⟨k,hk,rfl,HI,hM⟩:=hrel;by_cases hlt:k<n
  ·obtain⟨b,o,rfl,hc,hi⟩:=HS.out k hlt;have HC:=hide hc;clear hc hi;go_wp2_with(first|(go_at_call 208;(with_reducible refine uD hM (KR _ _ _ _) ?_ ?_)<;>(clear hM;intro W1 hb hM;first|(have hs:=ef hb.out;clear hb)|clear hb))|((with_reducible refine lX ?_);refine yL hM rfl (by first|exact rfl|(go_simp;done)) rfl (Zg rfl) HC.out (bQ rfl) ?_)|(refine qe ?_;clear hM;intro g W hM))
   all_goals first
    |(go_ret;exact⟨_,rfl,⟨by exact⟨qG,qG⟩,fun h=>absurd h qG⟩,hM.below⟩)
    |(go_roundw
      case rel=>exact⟨k+1,by omega,by go_num,hide (ek HI.out ⟨qg,qg⟩),qC hM⟩
      case measure=>simp[intOf];omega)
  ·have HW:=hide (show∀j,j<n→W2 (f j)from fun j hj=>HI.out j qg);clear HI;go_wp2_with(first|(refine qe ?_;clear hM;intro g W hM));go_loopw [40] (fun s wx=>∃k:Nat,k≤m∧s=Iv k∧Hid (∀j,j<k→S2 (g j))∧qF w wx []) (fun s _=>m-(intOf s).toNat)
   case atStart=>exact⟨0,by omega,rfl,hide (fun j hj=>absurd hj qg),hM⟩
   case round=>
    clear hM;obtain⟨j,hj,rfl,HI,hM⟩:=hrel;by_cases hlj:j<m
    ·obtain⟨b2,o2,rfl,hc,hi⟩:=HT.out j hlj;have HC:=hide hc;clear hc hi;go_wp2_with(first|(go_at_call 208;(with_reducible refine uD hM (KR _ _ _ _) ?_ ?_)<;>(clear hM;intro W1 hb hM;first|(have hs:=ef hb.out;clear hb)|clear hb))|((with_reducible refine lX ?_);refine yL hM rfl (by first|exact rfl|(go_simp;done)) rfl (Zg rfl) HC.out (bQ rfl) ?_)|(refine qe ?_;clear hM;intro g W hM))
     all_goals first
      |(go_ret;exact⟨_,rfl,⟨by exact⟨qG,qG⟩,fun h=>absurd h qG⟩,hM.below⟩)
      |(go_roundw
        case rel=>exact⟨j+1,by omega,by go_num,hide (ek HI.out ⟨qg,qg⟩),qC hM⟩
        case measure=>simp[intOf];omega)
    ·have HZ:=hide (show∀i,i<m→S2 (g i)from fun i hi=>HI.out i qg);clear HI;go_wp2_with(first|(refine qe ?_;clear hM;intro g W hM))
     all_goals(go_ret;exact⟨_,rfl,⟨zg,fun _=>⟨h1,hmn.out,HW.out,HZ.out⟩⟩,hM.below⟩)
theorem fq(T:Option Addr)(st:List (Int×Int))(m d i j:Nat)(w:World)(HT:Hid (zY w T m (pq st)))(hS:Hid (KL st))(hm:m≤64)(hd:m≤d)(hd2:d≤9223372036854775807)(hij:i<j)(hj:j≤m):Calls Tryz.prog 210 #[.slice T m d,Iv (i:Int),Iv (j:Int)] w (bR (fun r:Int×Int=> .tuple #[Iv r.1,Iv r.2]) (fun r=>Hid (kZ st i (j-i)=r)) w):=by
 have hM:=qo w;obtain⟨b,o,rfl,-⟩:=HT.out 0 qg;obtain⟨l,hl⟩:∃l,j=i+l:=⟨j-i,qg⟩;subst hl;rw[show i+l-i=l by omega];go_enter Tryz.func210,Tryz.ntmps210;go_upto_region 2 with(first|(refine qe ?_;clear hM;intro g W hM));simp only[Int.natCast_add,Nat.add_sub_cancel_left];go_loopw [6,7,15] (fun s6 s7 s wx=>∃(k:Nat) (p q:Int),k≤l∧s6=Iv p∧s7=Iv q∧s=Iv k∧Hid (kZ st i k=(p,q))∧qF w wx []) (fun _ _ s _=>l-(intOf s).toNat)
 case atStart=>exact⟨0,0,0,by omega,rfl,rfl,rfl,hide rfl,hM⟩
 case round=>
  clear hM;obtain⟨k,p,q,hk,rfl,rfl,rfl,HQ,hM⟩:=hrel;by_cases hlt:k<l
  ·have hc:=(ve HT.out (k:=i+k) qg).1;have HC:=hide (show∀(jj:Nat) (v:Value),[Value.int .i64 (pq st (i+k)).1,Iv (pq st (i+k)).2][jj]? =some v→w.cell? ⟨b,o+i*2+k*2+jj,none⟩=some v from fun jj v hv=>by rw[show o+i*2+k*2+jj=o+(i+k)*2+jj by omega];exact hc jj v hv);have hb:=BF hS.out i k;have hp:=JR hS.out (i+k);have HN:=hide (show kZ st i (k+1)=(p+(pq st (i+k)).1,q+(pq st (i+k)).2) by rw[kZ,HQ.out]);rw[HQ.out]at hb;dsimp only at hb;clear hc HQ;obtain⟨x,hx⟩:∃x,(pq st (i+k)).1=x:=⟨_,rfl⟩;obtain⟨y,hy⟩:∃y,(pq st (i+k)).2=y:=⟨_,rfl⟩;rw[hx,hy]at HC HN hp;clear hx hy;have w1:=IntWalk.i64_in (p+x) qg;have w2:=IntWalk.i64_in (q+y) qg;clear hb hp;go_wp2_with(first|((with_reducible refine lX ?_);refine yL hM rfl (by first|exact rfl|(go_simp;done)) rfl (Zg rfl) HC.out (bQ rfl) ?_)|(refine qe ?_;clear hM;intro g W hM))
   all_goals
    (go_roundw
     case rel=>exact⟨k+1,_,_,by omega,rfl,rfl,by go_num,HN,qC hM⟩
     case measure=>simp[intOf];omega)
  ·obtain rfl:k=l:=qg;go_wp2_with(first|(refine qe ?_;clear hM;intro g W hM))
   all_goals(go_ret2;exact⟨(_,_),rfl,HQ,hM.below⟩)
theorem BX(S T:Option Addr)(ws st:List (Int×Int))(n c m d i j:Nat)(w:World)(HS:Hid (zY w S n (pq ws)))(HT:Hid (zY w T m (pq st)))(hW:Hid (∀k,k<n→W2 (pq ws k)))(hS:Hid (KL st))(hn:n≤64)(hm:m≤64)(hd:m≤d)(hd2:d≤9223372036854775807)(hij:i≤j)(hj:j<n)(hjm:j≤m):Calls Tryz.prog 177 #[.slice S n c,.slice T m d,Iv (i:Int),Iv (j:Int)] w (bR (fun q:Int=>Iv q) (fun q=>Hid (BD ws st i j=q)) w):=by
 have hM:=qo w;obtain⟨bs,os,rfl,-⟩:=HS.out 0 qg;have ca:=(ve HS.out (k:=i) qg).1;have cb:=(ve HS.out (k:=j) qg).1;have wa:=hW.out i qg;have wb:=hW.out j qg;obtain⟨R,HR⟩:∃R,BD ws st i j=R:=⟨_,rfl⟩;have hq:=BF hS.out i (j-i);rw[HR];unfold BD at HR;obtain⟨⟨a1,a2⟩,ha⟩:∃x,pq ws i=x:=⟨_,rfl⟩;obtain⟨⟨b1,b2⟩,hb⟩:∃x,pq ws j=x:=⟨_,rfl⟩;rw[ha]at ca wa HR;rw[hb]at cb wb HR;have HA:=hide ca;have HB:=hide cb;unfold W2 at wa wb;dsimp only at wa wb HR HA HB;have HW:=hide (And.intro wa wb);have HRR:=hide HR;have HSQ:=hide hq;clear ca cb wa wb ha hb HR hq;have wi1:=IntWalk.i64_in (a1-a2) (by have:=HW.out;omega);by_cases hlt:i=j
 ·have e1:((i:Int)==(j:Int))=true:=by simp;omega
  have HX:=hide (show a1-a2=R by rw[←HRR.out,if_pos hlt]);clear HRR hlt;go_enter Tryz.func177,Tryz.ntmps177;go_upto_region 1 with(first|(refine qe ?_;clear hM;intro g W hM));refine qj ?_;go_cut [9,10] (fun s9 s10 wx=>∃ga gb:Nat,s9= .pointer (some ⟨ga,0,none⟩)∧s10= .pointer (some ⟨gb,0,none⟩)∧qF w wx [(gb,[Iv b1,Iv b2],55),(ga,[Iv a1,Iv a2],55)])
  case first=>
   refine qA [] hM qM ?_;(clear hM;intro W hM);refine rD 0 ?_;refine rD 1 ?_;refine dP 2 (v:= .pointer (some ⟨bs,os+i*2,none⟩)) hM ?_ (hv:=by(intro W0;go_simp;first|done|omega|(intro h;exact absurd h qg)));refine qj ?_;refine Qp 3 hM (HA.out) ?_;refine qj ?_;refine rD 4 ?_;refine rD 5 ?_;refine dP 6 (v:= .pointer (some ⟨bs,os+j*2,none⟩)) hM ?_ (hv:=by(intro W0;go_simp;first|done|omega|(intro h;exact absurd h qg)));refine qj ?_;refine Qp 7 hM (HB.out) ?_;refine qj ?_;refine dT 8 9 (fun K' hK'=> ?_) (fun K' hK'=> ?_)
   ·
    refine oN hM ?_;clear hM;intro g9 W hM;refine rK hK' hM ?_;clear hK' K';refine dC 9 (fun K' hK'=> ?_);refine oN hM ?_;clear hM;intro g10 W hM;refine rK hK' hM ?_;clear hK' K';refine dC 10 (fun K' hK'=> ?_);refine oS hM ?_;clear hM;intro W hM;refine rK hK' hM ?_;clear hK' K';refine dC 11 (fun K' hK'=> ?_);refine oS hM ?_;clear hM;intro W hM;refine rK hK' hM ?_;clear hK' K';refine qp qM ?_;go_wp2_with fail
    all_goals
     go_meet
     first|exact⟨_,_,rfl,rfl,hM⟩|exact⟨_,_,rfl,rfl,qW hM (List.Perm.swap _ _ _)⟩
   ·
    refine oN hM ?_;clear hM;intro g10 W hM;refine rK hK' hM ?_;clear hK' K';refine dC 8 (fun K' hK'=> ?_);refine oN hM ?_;clear hM;intro g9 W hM;refine rK hK' hM ?_;clear hK' K';refine dC 10 (fun K' hK'=> ?_);refine oS hM ?_;clear hM;intro W hM;refine rK hK' hM ?_;clear hK' K';refine dC 11 (fun K' hK'=> ?_);refine oS hM ?_;clear hM;intro W hM;refine rK hK' hM ?_;clear hK' K';refine qp qM ?_;go_wp2_with fail
    all_goals
     go_meet
     first|exact⟨_,_,rfl,rfl,hM⟩|exact⟨_,_,rfl,rfl,qW hM (List.Perm.swap _ _ _)⟩
  case rest=>
  clear hM;obtain⟨ga,gb,rfl,rfl,hM⟩:=hcut;go_wp2_with(first|(refine qe ?_;clear hM;intro g W hM))
  all_goals(go_ret;exact⟨_,rfl,hide HX.out.symm,hM.below⟩)
 ·have e1:((i:Int)==(j:Int))=false:=by simp;omega
  replace hlt:i<j:=qg;have HX:=hide (show(if a1>a2∨b1>b2 then 0 else max (b1-(a2+(kZ st i (j-i)).1)) (a1-(kZ st i (j-i)).2-b2))=R by rw[←HRR.out,if_neg (show¬i=j by omega)]);clear HRR;go_enter Tryz.func177,Tryz.ntmps177;go_upto_region 1 with(first|(refine qe ?_;clear hM;intro g W hM));refine qj ?_;go_cut [9,10] (fun s9 s10 wx=>∃ga gb:Nat,s9= .pointer (some ⟨ga,0,none⟩)∧s10= .pointer (some ⟨gb,0,none⟩)∧qF w wx [(gb,[Iv b1,Iv b2],55),(ga,[Iv a1,Iv a2],55)])
  case first=>
   refine qA [] hM qM ?_;(clear hM;intro W hM);refine rD 0 ?_;refine rD 1 ?_;refine dP 2 (v:= .pointer (some ⟨bs,os+i*2,none⟩)) hM ?_ (hv:=by(intro W0;go_simp;first|done|omega|(intro h;exact absurd h qg)));refine qj ?_;refine Qp 3 hM (HA.out) ?_;refine qj ?_;refine rD 4 ?_;refine rD 5 ?_;refine dP 6 (v:= .pointer (some ⟨bs,os+j*2,none⟩)) hM ?_ (hv:=by(intro W0;go_simp;first|done|omega|(intro h;exact absurd h qg)));refine qj ?_;refine Qp 7 hM (HB.out) ?_;refine qj ?_;refine dT 8 9 (fun K' hK'=> ?_) (fun K' hK'=> ?_)
   ·
    refine oN hM ?_;clear hM;intro g9 W hM;refine rK hK' hM ?_;clear hK' K';refine dC 9 (fun K' hK'=> ?_);refine oN hM ?_;clear hM;intro g10 W hM;refine rK hK' hM ?_;clear hK' K';refine dC 10 (fun K' hK'=> ?_);refine oS hM ?_;clear hM;intro W hM;refine rK hK' hM ?_;clear hK' K';refine dC 11 (fun K' hK'=> ?_);refine oS hM ?_;clear hM;intro W hM;refine rK hK' hM ?_;clear hK' K';refine qp qM ?_;go_wp2_with fail
    all_goals
     go_meet
     first|exact⟨_,_,rfl,rfl,hM⟩|exact⟨_,_,rfl,rfl,qW hM (List.Perm.swap _ _ _)⟩
   ·
    refine oN hM ?_;clear hM;intro g10 W hM;refine rK hK' hM ?_;clear hK' K';refine dC 8 (fun K' hK'=> ?_);refine oN hM ?_;clear hM;intro g9 W hM;refine rK hK' hM ?_;clear hK' K';refine dC 10 (fun K' hK'=> ?_);refine oS hM ?_;clear hM;intro W hM;refine rK hK' hM ?_;clear hK' K';refine dC 11 (fun K' hK'=> ?_);refine oS hM ?_;clear hM;intro W hM;refine rK hK' hM ?_;clear hK' K';refine qp qM ?_;go_wp2_with fail
    all_goals
     go_meet
     first|exact⟨_,_,rfl,rfl,hM⟩|exact⟨_,_,rfl,rfl,qW hM (List.Perm.swap _ _ _)⟩
  case rest=>
  clear hM;obtain⟨ga,gb,rfl,rfl,hM⟩:=hcut;by_cases h1:a2<a1
  ·have HY:=hide (show(0:Int)=R by rw[←HX.out,if_pos (.inl h1)]);clear HX;go_wp2_with(first|(refine qe ?_;clear hM;intro g W hM))
   all_goals(go_ret;exact⟨_,rfl,hide HY.out.symm,hM.below⟩)
  by_cases h2:b2<b1
  ·have HY:=hide (show(0:Int)=R by rw[←HX.out,if_pos (.inr h2)]);clear HX;go_wp2_with(first|(refine qe ?_;clear hM;intro g W hM))
   all_goals(go_ret;exact⟨_,rfl,hide HY.out.symm,hM.below⟩)
  have HY:=hide (show max (b1-(a2+(kZ st i (j-i)).1)) (a1-(kZ st i (j-i)).2-b2)=R by rw[←HX.out,if_neg (show¬(a1>a2∨b1>b2) by omega)]);clear HX;go_upto_region 7 with(first|(refine qe ?_;clear hM;intro g W hM)|(go_at_call 210;(with_reducible refine cx hM (fq _ st m d i j _ (hide (zj hM HT.out)) hS hm hd hd2 hlt hjm) ?_);clear hM;rintro⟨r1,r2⟩ W1 HQ hM;(try dsimp only)));have hs:=HSQ.out;have hy:=HY.out;rw[HQ.out]at hs hy;dsimp only at hs hy;have hw:=HW.out;have u1:=IntWalk.i64_in (a2+r1) qg;have u2:=IntWalk.i64_in (b1-(a2+r1)) qg;have u3:=IntWalk.i64_in (a1-r2) qg;have u4:=IntWalk.i64_in (a1-r2-b2) qg;have HZ:=hide hy;clear hs hy hw;go_wp2_with(first|(refine qe ?_;clear hM;intro g W hM))
  all_goals(go_ret;exact⟨_,rfl,hide HZ.out.symm,hM.below⟩)
theorem xj:yw Tryz.prog 67 2 16:=by unfold yw;kernel_rfl
abbrev UO(x:Int×Int):List Value:=[Iv x.1,Iv x.2]
def wA(ws st:List (Int×Int))(k j:Nat):Prop:=∀a b,a≤b→b<ws.length→a<k∨(a=k∧b<j)→BD ws st a b≤0
theorem KS{ws st:List (Int×Int)}{k j:Nat}(h:wA ws st k j)(he:BD ws st k j≤0):wA ws st k (j+1):=fun a b h1 h2 h3=>by
 by_cases e:a=k∧b=j
 ·obtain⟨rfl,rfl⟩:=e;exact he
 ·exact h a b h1 h2 qg
theorem fA{ws st:List (Int×Int)}{k j:Nat}(h:wA ws st k j)(hj:ws.length≤j):wA ws st (k+1) (k+1):=fun a b h1 h2 h3=>h a b h1 h2 qg
theorem eB{ws st:List (Int×Int)}{k j:Nat}(h:wA ws st k j)(hk:ws.length≤k):Tu ws st:=fun a b h1 h2=>h a b h1 h2 qg
theorem La{l:List (Int×Int)}(h:∀x∈l,qz x.1∧qz x.2):∀k,k<l.length→qz (pq l k).1∧qz (pq l k).2:=fun k hk=>by
 unfold pq;rw[List.getD_eq_getElem?_getD,List.getElem?_eq_getElem hk];exact h _ (List.getElem_mem hk)
def Lb(ws st l1 l2:List (Int×Int)):Prop:=(∀x∈l1,qz x.1∧qz x.2)∧(∀x∈l2,qz x.1∧qz x.2)∧(l1=[]→l2=[]→Tu ws st)
theorem mQ{α:Type}{l:List α}{x:α}{p:Prop}:l++[x]=[]→p:=fun h=>by simp at h
theorem VA{l:List (Int×Int)}(h:∀x∈l,qz x.1∧qz x.2){a b:Int}(ha:qz a)(hb:qz b):∀x∈l++[(a,b)],qz x.1∧qz x.2:=fun x hx=>by
 rcases List.mem_append.1 hx with hx|hx
 ·exact h x hx
 ·rw[List.mem_singleton.1 hx];exact⟨ha,hb⟩
theorem Ad{k:Nat}(h:k≤64):qz (k:Int):=⟨qg,qg⟩
theorem CZ(pre B:List qZ):Sx (pre++B) pre B:=by
 induction pre with
 |nil=>exact .here
 |cons e pre ih=>exact .tail ih
theorem Nl{w W:World}{x:qZ}{B:List qZ}(h:qF w W ([x]++B)):qF w W B:=qC h
theorem Fa:∀l:List (Int×Int),(l.flatMap UO).length=l.length*2:=JL
theorem Fb(l:List (Int×Int)):∀u∈l.flatMap UO,u.oneCell'=true:=dI l
theorem DP(S T:Option Addr)(ws st:List (Int×Int))(c d:Nat)(w:World)(hwl:ws.length≤9223372036854775807)(hsl:st.length≤9223372036854775807)(hsd:st.length≤d)(hd63:d≤9223372036854775807)(HS:Hid (zY w S ws.length (pq ws)))(HT:Hid (zY w T st.length (pq st))):Calls Tryz.prog 107 #[.slice S ws.length c,.slice T st.length d] w
 fun e w'=>∃(V:Value) (l:List (Int×Int)) (B:List qZ) (q:Int),e= .returned (.tuple #[V,Iv q])∧qz q∧Hid (bZ 67 2 V l.length (l.flatMap UO) B)∧qF w w' B∧(∀x∈l,qz x.1∧qz x.2)∧(q=0→Ac ws.length st.length (pq ws) (pq st)∧(l=[]→Tu ws st)):=by
 have hM:=qo w;go_enter Tryz.func107,Tryz.ntmps107;go_upto_region 5 with(first|(refine qe ?_;clear hM;intro g W hM)|(go_at_call 174;(with_reducible refine Bq hM (Vz S T ws.length st.length c d (pq ws) (pq st) _ hwl hsl (hide (zj hM HS.out)) (hide (zj hM HT.out))) ?_ ?_)<;>(clear hM;first|(intro q W1 hq hz hz1 hM)|(intro W1 HK hM))))
 all_goals first
  |(go_ret2;exact⟨_,[],[],_,rfl,by assumption,hide .nil,Ma hM,(fun x hx=>by cases hx),fun e=>absurd e qY⟩)
  |skip
 have hn64:=HK.out.le;have hm64:st.length≤64:=by have:=HK.out.eq;omega
 have hmn:=hide HK.out.eq;have HW:=hide HK.out.ws;have HSt:Hid (KL st):=hide (eu HK.out.st);obtain⟨HKK,-⟩:∃_:Hid (Ac ws.length st.length (pq ws) (pq st)),True:=⟨HK,trivial⟩;clear HK;go_wp2_with(first|refine zC ?_);go_loopw [7,8,19] (fun s7 s8 s19 wx=>∃(k:Nat) (l1 l2:List (Int×Int)) (B1 B2:List qZ),k≤ws.length∧s19=Iv (k:Int)∧Hid (bZ 67 2 s7 l1.length (l1.flatMap UO) B1)∧Hid (bZ 67 2 s8 l2.length (l2.flatMap UO) B2)∧(l1.length≤64*k∧l2.length≤64*k)∧Hid (l1=[]→l2=[]→wA ws st k k)∧Hid ((∀x∈l1,qz x.1∧qz x.2)∧∀x∈l2,qz x.1∧qz x.2)∧qF w wx (B1++B2)) (fun _ _ s _=>ws.length-(intOf s).toNat)
 case atStart=>exact⟨0,[],[],[],[],by omega,rfl,hide .nil,hide .nil,⟨jL,jL⟩,hide (fun _ _ a b h1 h2 h3=>by omega),hide ⟨(fun x hx=>by cases hx),(fun x hx=>by cases hx)⟩,hM⟩
 case round=>
  clear hM;obtain⟨k,l1,l2,B1,B2,hk,rfl,HO1,HO2,hll,HI,H6,hM⟩:=hrel;by_cases hkn:k<ws.length
  ·go_wp2_with(first|refine zC ?_);go_loopw [7,8,10] (fun s7 s8 s10 wx=>∃(j:Nat) (l1 l2:List (Int×Int)) (B1 B2:List qZ),k≤j∧j≤ws.length∧s10=Iv (j:Int)∧Hid (bZ 67 2 s7 l1.length (l1.flatMap UO) B1)∧Hid (bZ 67 2 s8 l2.length (l2.flatMap UO) B2)∧(l1.length≤64*k+j∧l2.length≤64*k+j)∧Hid (l1=[]→l2=[]→wA ws st k j)∧Hid ((∀x∈l1,qz x.1∧qz x.2)∧∀x∈l2,qz x.1∧qz x.2)∧qF w wx (B1++B2)) (fun _ _ s _=>ws.length-(intOf s).toNat)
   case atStart=>exact⟨k,l1,l2,B1,B2,by omega,by omega,rfl,HO1,HO2,⟨qg,qg⟩,HI,H6,hM⟩
   case round=>
    clear hM HO1 HO2 HI H6 hll;obtain⟨j,l1,l2,B1,B2,hkj,hjl,rfl,HO1,HO2,hll,HI,H6,hM⟩:=hrel;by_cases hjn:j<ws.length
    ·have hjm:j≤st.length:=by have:=hmn.out;omega
     have ki:=Ad (k:=k) qg;have ji:=Ad (k:=j) qg;have wj:=IntWalk.i64_in ((j:Int)+1) qg;by_cases e:k=j
     ·have e1:((k:Int)==(j:Int))=true:=beq_iff_eq.2 qg;clear e;replace hM:=qW hM List.perm_append_comm;go_wp2_with(first|(go_at_call 177;(with_reducible refine cx hM (BX S T ws st ws.length c st.length d k j _ (hide (zj hM HS.out)) (hide (zj hM HT.out)) HW HSt hn64 hm64 hsd hd63 hkj hjn hjm) ?_);clear hM;intro q W1 HQ hM;by_cases hq:q≤0)|((with_reducible refine uJ ?_);refine' yZ hM rfl rfl ?_ Tryz.underlying197 xj ?_ qG qG ?_;rotate_left 1;(·constructor);(·rfl);(clear hM;intro g W hM))|((with_reducible refine kD ?_);refine kH UO ((k:Int),(j:Int)) hM rfl rfl rfl rfl HO1 Tryz.underlying197 xj rfl rfl qG qG qg ?_;clear hM;intro V B' W HV hM)|refine zC ?_)
      all_goals first
       |(go_roundw
         case rel=>exact⟨j+1,l1,l2,B1,B2,by omega,by omega,by go_num,HO1,HO2,⟨qg,qg⟩,hide (fun a b=>KS (HI.out a b) (by rw[HQ.out];exact hq)),H6,qW hM List.perm_append_comm⟩
         case measure=>simp[intOf];omega)
       |(go_roundw
         case rel=>exact⟨j+1,l1++[((k:Int),(j:Int))],l2,B',B2,by omega,by omega,by go_num,HV,HO2,⟨by simp;omega,qg⟩,hide (fun a=>mQ a),hide ⟨VA H6.out.1 ki ji,H6.out.2⟩,qW hM List.perm_append_comm⟩
         case measure=>simp[intOf];omega)
     ·have e1:((k:Int)==(j:Int))=false:=beq_eq_false_iff_ne.2 qg;clear e;go_wp2_with(first|(go_at_call 177;(with_reducible refine cx hM (BX S T ws st ws.length c st.length d k j _ (hide (zj hM HS.out)) (hide (zj hM HT.out)) HW HSt hn64 hm64 hsd hd63 hkj hjn hjm) ?_);clear hM;intro q W1 HQ hM;by_cases hq:q≤0)|((with_reducible refine uJ ?_);refine' yZ hM rfl rfl ?_ Tryz.underlying197 xj ?_ qG qG ?_;rotate_left 1;(·constructor);(·rfl);(clear hM;intro g W hM))|((with_reducible refine kD ?_);refine kH UO ((k:Int),(j:Int)) hM rfl rfl rfl rfl HO2 Tryz.underlying197 xj rfl rfl qG qG qg ?_;clear hM;intro V B' W HV hM)|refine zC ?_)
      all_goals first
       |(go_roundw
         case rel=>exact⟨j+1,l1,l2,B1,B2,by omega,by omega,by go_num,HO1,HO2,⟨qg,qg⟩,hide (fun a b=>KS (HI.out a b) (by rw[HQ.out];exact hq)),H6,hM⟩
         case measure=>simp[intOf];omega)
       |(go_roundw
         case rel=>exact⟨j+1,l1,l2++[((k:Int),(j:Int))],B1,B',by omega,by omega,by go_num,HO1,HV,⟨qg,by simp;omega⟩,hide (fun a b=>mQ b),hide ⟨H6.out.1,VA H6.out.2 ki ji⟩,hM⟩
         case measure=>simp[intOf];omega)
    ·go_wp2_with(first|refine zC ?_)
     all_goals
      (go_roundw
       case rel=>exact⟨k+1,l1,l2,B1,B2,by omega,by go_num,HO1,HO2,⟨qg,qg⟩,hide (fun a b=>fA (HI.out a b) qg),H6,hM⟩
       case measure=>simp[intOf];omega)
  ·have HF:Hid (Lb ws st l1 l2):=hide ⟨H6.out.1,H6.out.2,fun a b=>eB (HI.out a b) qg⟩;clear HI H6;obtain⟨S1,cap1,e1,hcap1⟩:=uY HO1.out;obtain⟨S2,cap2,e2,hcap2⟩:=uY HO2.out;obtain rfl:=e1;obtain rfl:=e2;by_cases hz:l2.length=0
   ·have hl2:l2=[]:=List.length_eq_zero_iff.1 hz;subst hl2;go_wp2_with(first|((with_reducible refine kD ?_);refine wU rfl rfl rfl rfl hcap1 Tryz.underlying197 xj ?_)|refine zC ?_)
    all_goals(go_ret2;exact⟨_,l1,B1,0,rfl,zg,HO1,uK hM (List.sublist_append_left _ _),HF.out.1,fun _=>⟨HKK.out,fun a=>HF.out.2.2 a rfl⟩⟩)
   ·obtain⟨g2,cur2,rfl,rfl,hcur⟩:=xw HO2.out qg;replace hM:=qW hM List.perm_append_comm;go_wp2_with(first|((with_reducible refine kD ?_);refine wT (pre:=[(g2,cur2,67)]) hM rfl rfl rfl rfl HO1.out (CZ [(g2,cur2,67)] B1) Tryz.underlying197 xj .head hcur (Fa _) (Fb _) qG qg qg (by(unfold maxLen;omega)) ?_;clear hM;intro g cap B W HV hM)|refine zC ?_)
    all_goals(go_ret2;exact⟨_,l1++l2,B,0,rfl,zg,hide (by rw[List.length_append,List.flatMap_append];exact HV),Nl hM,fun x hx=>(List.mem_append.1 hx).elim (HF.out.1 x) (HF.out.2.1 x),fun _=>⟨HKK.out,fun a=>HF.out.2.2 (List.append_eq_nil_iff.1 a).1 (List.append_eq_nil_iff.1 a).2⟩⟩)
theorem Nm{f:FuncId}{xs:Array Value}{w W:World}{L:List qZ}{R:Ending→World→Prop}{ws st:List (Int×Int)}(hM:qF w W L)
 (hc:Calls Tryz.prog f xs W fun e w'=>∃(V:Value) (l:List (Int×Int)) (B:List qZ) (q:Int),e= .returned (.tuple #[V,Iv q])∧qz q∧Hid (bZ 67 2 V l.length (l.flatMap UO) B)∧qF W w' B∧(∀x∈l,qz x.1∧qz x.2)∧(q=0→Ac ws.length st.length (pq ws) (pq st)∧(l=[]→Tu ws st)))
 (h0:∀(V:Value) (q:Int) W1,qz q→(q==0)=false→(q !=0)=true→qF w W1 L→R (.returned (.tuple #[V,Iv q])) W1)
 (h1:∀(S:Option Addr) (n cap:Nat) W1,0<n→True→True→qF w W1 L→R (.returned (.tuple #[.slice S n cap,Iv 0])) W1)
 (h2:∀(S:Option Addr) (cap:Nat) W1,Hid (Ac ws.length st.length (pq ws) (pq st))→Hid (Tu ws st)→qF w W1 L→R (.returned (.tuple #[.slice S 0 cap,Iv 0])) W1):Calls Tryz.prog f xs W R:=
 hc.mono fun e w' hh=>by
  obtain⟨V,l,B,q,he,hq,HV,hm,-,hK⟩:=hh;subst he;have hM':=qD hM hm.below;by_cases hz:q=0
  ·subst hz;obtain⟨S,cap,rfl,-⟩:=uY HV.out;have hk:=hK rfl;by_cases hl:l.length=0
   ·rw[hl];exact h2 S cap w' (hide hk.1) (hide (hk.2 (List.length_eq_zero_iff.1 hl))) hM'
   ·exact h1 S l.length cap w' qg trivial trivial hM'
  ·exact h0 V q w' hq (by simpa using hz) (by simpa using hz) hM'
theorem YJ(S T:Option Addr)(ws st:List (Int×Int))(c d:Nat)(w:World)(hwl:ws.length≤9223372036854775807)(hsl:st.length≤9223372036854775807)(hsd:st.length≤d)(hd63:d≤9223372036854775807)(HS:Hid (zY w S ws.length (pq ws)))(HT:Hid (zY w T st.length (pq st))):Calls Tryz.prog 51 #[.slice S ws.length c,.slice T st.length d] w
 (bR (fun r:Int×Int×Bool×Int=> .tuple #[.agg #[Iv r.1,Iv r.2.1],.bool r.2.2.1,Iv r.2.2.2]) (fun r=>qz r.1∧qz r.2.1∧qz r.2.2.2) w):=by
 have hM:=qo w;go_enter Tryz.func51,Tryz.ntmps51;go_upto_region 2 with(first|(refine qe ?_;clear hM;intro g W hM)|(go_at_call 107;(with_reducible refine(DP S T ws st c d _ hwl hsl hsd hd63 (hide (zj hM HS.out)) (hide (zj hM HT.out))).mono ?_);rintro e W1 ⟨V,l,B,q,rfl,hqi,HV,hm,hli,-⟩;replace hM:=Yu hM hm;clear hm;obtain⟨SV,capV,rfl,-⟩:=uY HV.out;by_cases hl:l.length=0;rotate_left;obtain⟨gl,cur,rfl,rfl,hcur⟩:=xw HV.out qg))
 ·have hp:=dJ (We hcur (La hli)) (k:=0) qg;have h2:=La hli 0 qg;rw[Nat.zero_mul]at hp;obtain⟨x,hx⟩:∃x,(pq l 0).1=x:=⟨_,rfl⟩;obtain⟨y,hy⟩:∃y,(pq l 0).2=y:=⟨_,rfl⟩;rw[hx,hy]at hp h2;obtain⟨ix,iy⟩:=h2;have HP:=hide hp;clear hp hx hy hcur hli;have e1:((l.length:Int)==0)=false:=beq_eq_false_iff_ne.2 qg;go_wp2_with(first|((with_reducible refine lX ?_);refine GY hM rfl rfl (by first|exact rfl|(go_simp;done)) HP.out (Zg rfl) (bQ rfl) ?_)|(refine qe ?_;clear hM;intro g W hM))
  all_goals(refine' uq hM rfl rfl Tryz.isAgg67 Tryz.sizeOf67 rfl rfl rfl ?_ ?_ ?_;rotate_left 2;(·repeat constructor);(·rfl);(·exact⟨(_,_,_,_),rfl,⟨by first|exact zg|assumption,by first|exact zg|assumption,by first|exact zg|assumption⟩,hM.below⟩))
 ·replace hM:=uK hM (List.sublist_append_right _ _);go_wp2_with(first|(refine qe ?_;clear hM;intro g W hM))
  all_goals(refine' uq hM rfl rfl Tryz.isAgg67 Tryz.sizeOf67 rfl rfl rfl ?_ ?_ ?_;rotate_left 2;(·repeat constructor);(·rfl);(·exact⟨(_,_,_,_),rfl,⟨by first|exact zg|assumption,by first|exact zg|assumption,by first|exact zg|assumption⟩,hM.below⟩))
end Go.Proofs.YtiegohjobhehcaaGreatDoor
