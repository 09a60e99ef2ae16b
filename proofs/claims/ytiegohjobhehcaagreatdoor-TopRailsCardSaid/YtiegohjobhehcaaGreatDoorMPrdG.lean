/-
  The steps and the altitudes of a prediction.
-/
import Derived.Test.YtiegohjobhehcaaGreatDoorMPrdF
set_option maxRecDepth 100000
set_option maxHeartbeats 16000000
namespace Go.Proofs.YtiegohjobhehcaaGreatDoor
open Go.RowKit
set_option linter.unusedVariables false
set_option linter.unusedSimpArgs false
theorem pM{c:Prop} [Decidable c]{a b:Int}(ha:qz a)(hb:qz b):qz (if c then a else b):=by split<;>assumption
theorem Ec:qz (-200000):=⟨qG,qG⟩
theorem rT(u:Su)(f:Nat→Nd)(w:World)(HS:Hid (xF w u f)):Calls Tryz.prog 48 #[.agg u.cells.toArray] w
 (KI 196 (u.n-1) (fun cs=>KJ u f∧∃v,v.length=u.n-1∧PL cs v) w):=by
 have hM:=qo w;go_enter Tryz.func48,Tryz.ntmps48;go_upto_region 4 with(first|(refine qe ?_;clear hM;intro g W hM)|(go_at_call 55;(with_reducible refine Bq hM (Yw u f _ (hide (jO hM HS.out))) ?_ ?_)<;>(clear hM;first|(intro q W1 hq hz hz1 hM)|(intro W1 HK hM))))
 all_goals first
  |(go_ret2;exact .inl ⟨_,rfl,⟨hq,by simpa using hz,hz1⟩,hM.below⟩)
  |skip
 obtain⟨gu,rfl⟩:=uC hM;have hn2:=HK.out.n;obtain⟨HKK,-⟩:∃_:Hid (KJ u f),True:=⟨HK,trivial⟩;clear HK;have hn63:=HS.out.n63;unfold maxLen at hn63;obtain⟨bn,on,hS,-⟩:=HS.out.nd 0 qg;have hS0:Hid (u.cells[0]? =some (.slice (some ⟨bn,on,none⟩) u.n u.c)):=hide (by rw[←hS];rfl);obtain⟨HN0,hn0⟩:=vU HS.out hS (k:=0) qg;have hi0:=hn0.2.2.2.2.1;have HSS:=hide hS;clear hS hn0;rw[show(0:Nat)*7=0 from rfl,Nat.add_zero]at HN0;go_upto_region 6 with(first|refine zC ?_|(go_at_call 102;(with_reducible refine cx hM (VD u.f0 u.f1 u.f2 u.f3 _) ?_);clear hM;rintro ms W1 ⟨ims,-⟩ hM)|(go_at_call 103;(with_reducible refine cx hM (fU u.pf _ _ Ec (hide (jR hM HS.out.pf))) ?_);clear hM;rintro⟨sk,e⟩ W1 ⟨isk,-⟩ hM;dsimp only at isk;try dsimp only));refine qj ?_;refine qA [(gu,u.cells,42)] hM qM ?_;(clear hM;intro W hM);refine rD 0 ?_;refine rD 1 ?_;refine rD 2 ?_;refine dL 3 hM ?_ (hv:=hS0.out);refine qj ?_;refine dP 4 (v:= .pointer (some ⟨bn,on,none⟩)) hM ?_ (hv:=by(intro W0;go_simp;first|done|omega|(intro h;exact absurd h qg)));refine qj ?_;refine rD 5 ?_;refine rD 6 ?_;refine jk 7 hM (HN0.out 4 _ rfl) ?_;refine qj ?_;refine rD 8 ?_;refine rD 9 ?_;refine qp qM ?_;have i0:=vu HS.out.lev hi0;go_wp2_with(first|refine zC ?_);go_loopw [8,9,10] (fun s8 s9 s wx=>∃(k:Nat) (hh:Int) (l:List (Int×Int)) (B:List qZ),k<u.n∧s8=Iv hh∧qz hh∧s=Iv ((k:Int)+1)∧l.length=k∧Hid (bZ 196 2 s9 l.length (l.flatMap UO) B)∧Hid (∀x∈l,qz x.1∧qz x.2)∧qF w wx ((gu,u.cells,42)::B)) (fun _ _ s _=>u.n+1-(intOf s).toNat)
 case atStart=>exact⟨0,_,[],[],by omega,rfl,i0,rfl,rfl,hide .nil,hide (fun x hx=>by cases hx),hM⟩
 case round=>
  clear hM i0;obtain⟨k,hh,l,B,hk,rfl,ihh,rfl,hl,HO,HI,hM⟩:=hrel;replace hl:=hide hl;have hl2:l.length≤1000000:=by have:=hl.out;omega
  by_cases hlt:k+1<u.n
  ·have hlt1:(k:Int)+1<(u.n:Int):=qg;have wk:=IntWalk.i64_in ((k:Int)+1+1) qg;obtain⟨HN1,hn1⟩:=vU HS.out HSS.out hlt;have ia:=hn1.2.2.2.2.1;have il:=HS.out.lev;clear hn1;go_upto_region 14 with(first|(go_at_call 104;(with_reducible refine cx hM (MA u f k _ (hide (jO hM HS.out)) hlt) ?_);clear hM;rintro tk W1 ⟨itk,-⟩ hM)|(go_at_call 105;(with_reducible refine cx hM (FT u.pf hh ms tk _ ihh ims (hide (jR hM HS.out.pf))) ?_);clear hM;rintro⟨r,e⟩ W1 ⟨ir,-⟩ hM;dsimp only at ir;try dsimp only)|((with_reducible refine lX ?_);refine yR hM rfl rfl rfl hS0.out (ur rfl) ?_)|((with_reducible refine uJ ?_);refine' yZ hM rfl rfl ?_ Tryz.underlying127 Ya ?_ qG qG ?_;rotate_left 1;(·constructor);(·rfl);(clear hM;intro g W hM))|((with_reducible refine kD ?_);refine kH UO (_,_) (R:=[(gu,u.cells,42)]) hM rfl rfl rfl rfl HO Tryz.underlying127 Ya rfl rfl qG qG hl2 ?_;clear hM;intro V B' W HV hM)|refine zC ?_);refine qj ?_;refine qA [(gu,u.cells,42)] hM qM ?_;(clear hM;intro W hM);refine rD 0 ?_;refine rD 1 ?_;refine rD 2 ?_;refine rD 3 ?_;refine dL 4 hM ?_ (hv:=hS0.out);refine qj ?_;refine rD 5 ?_;refine dP 6 (v:= .pointer (some ⟨bn,on+(k+1)*7,none⟩)) hM ?_ (hv:=by(intro W0;go_simp;first|done|omega|(intro h;exact absurd h qg)));refine qj ?_;refine rD 7 ?_;refine rD 8 ?_;refine jk 9 hM (HN1.out 4 _ rfl) ?_;refine qj ?_;refine rD 10 ?_;refine rD 11 ?_;refine qp qM ?_;go_wp2_with(first|refine zC ?_)
   (go_roundw
    case rel=>exact⟨k+1,_,_,B',by omega,rfl,by(repeat' (first|assumption|apply pM|apply vu)),by go_num,by simp[hl.out],HV,hide (VA HI.out (by first|exact zg|assumption|exact zi _|exact ze _|exact⟨qG,qG⟩) (by first|exact zg|assumption|exact zi _|exact ze _|exact⟨qG,qG⟩)),hM⟩
    case measure=>simp[intOf];omega)
  ·have hlt1:¬((k:Int)+1<(u.n:Int)):=qg;obtain⟨g,cap,cur,hV,hcap,rfl,hP⟩:=Vq HO.out (by have:=hl.out;omega) HI.out;have hln:l.length=u.n-1:=by have:=hl.out;omega
   rw[hln]at hV hcap;subst hV;have HP:=hide hP;replace hln:=hide hln;clear hP hl HO;go_wp2_with(first|((with_reducible refine lX ?_);refine yR hM rfl rfl rfl hS0.out (ur rfl) ?_)|refine zC ?_)
   all_goals(go_ret2;exact .inr ⟨g,cap,cur,rfl,hcap,⟨HKK.out,l,hln.out,HP.out⟩,qC hM⟩)
section
variable{P:Program}{a:Act}{w W:World}{L:List qZ}{fn:Func}{R:Ending→World→Prop}
theorem QR{cs:List Value}{tg:TypeId}{t u x:Tmp}{ty:TypeId}{g n:Nat}{v1 v3:Value}(hM:qF w W L)(hf:fn.results= #[.tmp t,.cell u ty,.tmp x])(h1:a.tmps.getD t undef=v1)(hu:a.tmps.getD u undef= .pointer (some ⟨g,0,none⟩))(h3:a.tmps.getD x undef=v3)
 (hg:∀w,(isAgg ty).run P w= .ok true w) (hz:∀w,(sizeOf ty).run P w= .ok n w) (hd:a.defers=[]) (hl:Lk L g cs tg) (hn:cs.length=n) (hR:R (.returned (.tuple #[v1,.agg cs.toArray,v3])) W):bodyPost P fn R .ret a W:=by
 subst hn h1 h3;refine bodyPost_ret ?_ hd hR;have h1:=zL (P:=P) (W:=W) ty g 0 cs.length cs hg (yA W hz) rfl (fun j v hj=>by rw[Nat.zero_add,hM.cell hl];exact hj);have hu':a.tmps[u]?.getD undef= .pointer (some ⟨g,0,none⟩):=by simpa using hu
 simp[results,hf,hu',asAddr,h1]
end
def MC(u:Su)(f:Nat→Nd)(w:World)(e:Ending)(w':World):Prop:=(∃x y q:Int,e= .returned (.tuple #[.slice none 0 0,.agg #[Iv x,Iv y],Iv q])∧(qz x∧qz y∧qz q∧(q==0)=false∧(q !=0)=true)∧Below w.heap.size w w')∨
 ∃(g cap:Nat) (cs:List Value) (fv:Nat→Int),e= .returned (.tuple #[.slice (some ⟨g,0,none⟩) u.n cap,.agg #[Iv 0,Iv 0],Iv 0])∧(u.n≤cap∧cap≤maxLen)∧(KJ u f∧IL cs u.n fv∧rV (ZE f u.n) u.n fv)∧qF w w' [(g,cs,2)]
theorem Tf(u:Su)(f:Nat→Nd)(w:World)(HS:Hid (xF w u f)):Calls Tryz.prog 17 #[.agg u.cells.toArray] w
 (MC u f w):=by
 have hM:=qo w;go_enter Tryz.func17,Tryz.ntmps17;go_upto_region 0 with fail;refine qj ?_;go_cut [1,3] (fun s1 s3 wx=>∃gu g3:Nat,s1= .pointer (some ⟨gu,0,none⟩)∧s3= .pointer (some ⟨g3,0,none⟩)∧qF w wx [(g3,[Iv 0,Iv 0],67),(gu,u.cells,42)])
 case first=>
  go_wp2_with(first|(refine qe ?_;clear hM;intro g W hM))
  all_goals
   go_meet;exact⟨_,_,rfl,rfl,hM⟩
 case rest=>
 clear hM;obtain⟨gu,g3,rfl,rfl,hM⟩:=hcut;go_upto_region 4 with(first|(refine qe ?_;clear hM;intro g W hM)|(go_at_call 48;(with_reducible refine Qf hM (rT u f _ (hide (jO hM HS.out))) ?_ ?_)<;>(clear hM;first|(rintro gs caps css W1 hcaps ⟨hK,v,hv,hP⟩ hM)|(rintro q W1 ⟨hqi,hq1,hq2⟩ hM))))
 all_goals first
  |(refine QR (tg:=67) hM rfl rfl rfl rfl Tryz.isAgg67 Tryz.sizeOf67 rfl (by((repeat constructor)<;>fail)) rfl ?_;exact Or.inl ⟨_,_,_,rfl,⟨by first|exact zg|assumption,by first|exact zg|assumption,hqi,hq1,hq2⟩,hM.below⟩)
  |skip
 have hn:=hK.n;have HK:=hide hK;clear hK;replace hv:=hide hv
 have HT:∀W L,qF w W L→Lk L gs css 196→zY W (some ⟨gs,0,none⟩) (u.n-1) (pq v):=fun W L h hl=>by
  have:=xD h hP hl
  rwa[hv.out]at this
 go_upto_region 5 with(first|(refine qe ?_;clear hM;intro g W hM)|(go_at_call 49;(refine(rS u f _ (hide (jO hM HS.out)) qg qg).mono ?_);rintro e W1 ⟨gw,capw,csw,rfl,hcapw,hPw,hm⟩;replace hM:=Yu hM hm;clear hm;simp only[List.cons_append,List.nil_append]at hM));have hlw:(ZE f u.n).length=u.n:=QQ _ _
 have HW:∀W L,qF w W L→Lk L gw csw 55→zY W (some ⟨gw,0,none⟩) u.n (pq (ZE f u.n)):=fun W L h hl=>by
  have:=xD h hPw hl
  rwa[hlw]at this
 have CR:=fun W h1 h2=>Wp (some ⟨gw,0,none⟩) (some ⟨gs,0,none⟩) (ZE f u.n) v u.lev capw caps W HS.out.lev qg qg (by have:=hv.out;omega) (by have:=hv.out;omega) (by have:=hcaps.2;unfold maxLen at this;omega) h1 h2
 simp only[hlw,hv.out]at CR;have HPW:=hide hPw;clear hPw hP;replace hlw:=hide hlw;go_upto_region 6 with(first|(refine qe ?_;clear hM;intro g W hM)|(go_at_call 50;(refine(CR _ (hide (HW _ _ hM (by((repeat constructor)<;>fail)))) (hide (HT _ _ hM (by((repeat constructor)<;>fail))))).mono ?_);rintro e W1 (⟨q,rfl,⟨hqi,hq1,hq2⟩,hb⟩|⟨gv,capv,csv,x,y,fv,rfl,hcapv,hIv,hm⟩)));rotate_left
 ·replace hM:=Yu hM hm;simp only[List.cons_append,List.nil_append]at hM;clear hm;have HI:=hide hIv;clear hIv;go_wp2_with(first|(refine qe ?_;clear hM;intro g W hM))
  all_goals(refine QR (tg:=67) hM rfl rfl rfl rfl Tryz.isAgg67 Tryz.sizeOf67 rfl (by((repeat constructor)<;>fail)) rfl ?_;exact Or.inr ⟨gv,capv,csv,fv,rfl,hcapv,⟨HK.out,HI.out.1,HI.out.2⟩,uK hM (List.Sublist.cons_cons _ (List.nil_sublist _))⟩)
 ·replace hM:=qD hM hb;clear hb;go_wp2_with(first|(refine qe ?_;clear hM;intro g W hM));go_loopw [42] (fun s wx=>∃(k:Nat) (cs:List Value) (l:List (Int×Int)),k≤u.n∧s=Iv (k:Int)∧Hid (PL cs l∧l.length=u.n)∧qF w wx [(gw,cs,55),(gs,css,196),(g3,[Iv 0,Iv 0],67),(gu,u.cells,42)]) (fun s _=>u.n-(intOf s).toNat)
  case atStart=>exact⟨0,csw,_,by omega,rfl,hide ⟨HPW.out,hlw.out⟩,hM⟩
  case round=>
   clear hM HW HPW CR;obtain⟨k,cs,l,hk,rfl,HI,hM⟩:=hrel;by_cases hlt:k<u.n
   ·have HX:=hide (HI.out.1.at_ k (by rw[HI.out.2];exact hlt)).2;have hlen:k*2+1<cs.length:=by have:=HI.out.1.le;rw[HI.out.2]at this;omega
    have HN2:=hide (show PL (jg cs (k*2+1) [Iv (min (pq l k).2 u.lev)]) (l.set k ((pq l k).1,min (pq l k).2 u.lev))∧(l.set k ((pq l k).1,min (pq l k).2 u.lev)).length=u.n from⟨Wf HI.out.1 (by rw[HI.out.2];exact hlt) (vu (HI.out.1.i64 k (by rw[HI.out.2];exact hlt)).2 HS.out.lev),by rw[List.length_set];exact HI.out.2⟩);obtain⟨x,hx⟩:∃x,(pq l k).2=x:=⟨_,rfl⟩;rw[hx]at HX HN2;clear hx;go_upto_region 11 with(first|(refine qe ?_;clear hM;intro g W hM));refine qj ?_;refine qA [(gu,u.cells,42)] hM qM ?_;(clear hM;intro W hM);refine rD 0 ?_;refine rD 1 ?_;refine rD 2 ?_;refine rD 3 ?_;refine dP 4 (v:= .pointer (some ⟨gw,k*2,none⟩)) hM ?_ (hv:=by(intro W0;go_simp;first|done|omega|(intro h;exact absurd h qg)));refine qj ?_;refine rD 5 ?_;refine rD 7 ?_;refine rD 8 ?_;refine dC 6 (fun K' hK'=> ?_);refine oL hM ?_ (hv:=HX.out);refine rK hK' hM ?_;clear hK' K';refine rD 9 ?_;refine dP 10 (v:= .pointer (some ⟨gw,k*2,none⟩)) hM ?_ (hv:=by(intro W0;go_simp;first|done|omega|(intro h;exact absurd h qg)));refine qj ?_;refine rD 11 ?_;refine dC 12 (fun K' hK'=> ?_);refine Mz hM hlen ?_;clear hM;intro W hM;refine rK hK' hM ?_;clear hK' K';refine qp qM ?_;go_wp2_with(first|(refine qe ?_;clear hM;intro g W hM))
    all_goals
     (go_roundw
      case rel=>exact⟨k+1,_,_,by omega,by go_num,HN2,hM⟩
      case measure=>simp[intOf];omega)
   ·have HV2:∀W L,qF w W L→Lk L gw cs 55→zY W (some ⟨gw,0,none⟩) u.n (pq l):=fun W L h hl=>by
     have:=xD h HI.out.1 hl
     rwa[HI.out.2]at this
    have CC:=fun W h1 h2=>YJ (some ⟨gw,0,none⟩) (some ⟨gs,0,none⟩) l v capw caps W (by have:=HI.out.2;omega) (by have:=hv.out;omega) (by have:=hv.out;omega) (by have:=hcaps.2;unfold maxLen at this;omega) h1 h2
    simp only[HI.out.2,hv.out]at CC;go_upto_region 14 with(first|(refine qe ?_;clear hM;intro g W hM)|(go_at_call 51;(with_reducible refine cx hM (CC _ (hide (HV2 _ _ hM (by((repeat constructor)<;>fail)))) (hide (HT _ _ hM (by((repeat constructor)<;>fail))))) ?_);clear hM;rintro⟨p,q2,bo,e2⟩ W1 ⟨ip,iq2,ie2⟩ hM;dsimp only at ip iq2;try dsimp only));obtain⟨g12,rfl⟩:=uC hM;refine qj ?_;refine qA [(g12,[Iv p,Iv q2],67)] hM qM ?_;(clear hM;intro W hM);refine rD 0 ?_;refine rD 1 ?_;refine rD 2 ?_;refine dC 3 (fun K' hK'=> ?_);refine oS hM ?_;clear hM;intro W hM;refine rK hK' hM ?_;clear hK' K';refine rD 4 ?_;refine qp qM ?_;go_wp2_with fail
    all_goals(refine QR (tg:=67) hM rfl rfl rfl rfl Tryz.isAgg67 Tryz.sizeOf67 rfl (by((repeat constructor)<;>fail)) rfl ?_;exact Or.inl ⟨_,_,_,rfl,⟨by first|exact zg|assumption,by first|exact zg|assumption,hqi,hq1,hq2⟩,hM.below⟩)
theorem Wh(u:Su)(f:Nat→Nd)(A:Option Addr)(ca:Nat)(fa:Nat→Int)(w:World)(HS:Hid (xF w u f))(HA:Hid (jT w A u.n fa)):Calls Tryz.prog 52 #[.agg u.cells.toArray,.slice A u.n ca] w
 (KI 55 u.n (fun cs=>∃v,v.length=u.n∧PL cs v) w):=by
 have hM:=qo w;go_enter Tryz.func52,Tryz.ntmps52;go_upto_region 6 with(first|(refine qe ?_;clear hM;intro g W hM)|(go_at_call 55;(with_reducible refine Bq hM (Yw u f _ (hide (jO hM HS.out))) ?_ ?_)<;>(clear hM;first|(intro q W1 hq hz hz1 hM)|(intro W1 HK hM))))
 all_goals first
  |(go_ret2;exact .inl ⟨_,rfl,⟨hq,by simpa using hz,hz1⟩,hM.below⟩)
  |skip
 obtain⟨gu,rfl⟩:=uC hM;have hn2:=HK.out.n;clear HK;have hn63:=HS.out.n63;unfold maxLen at hn63;obtain⟨bn,on,hS,-⟩:=HS.out.nd 0 qg;have hS0:Hid (u.cells[0]? =some (.slice (some ⟨bn,on,none⟩) u.n u.c)):=hide (by rw[←hS];rfl);have HSS:=hide hS;clear hS;refine qj ?_;refine qA [(gu,u.cells,42)] hM qM ?_;(clear hM;intro W hM);refine rD 0 ?_;refine rD 1 ?_;refine rD 2 ?_;refine rD 3 ?_;refine dC 4 (fun K' hK'=> ?_);go_wp2_with(first|(go_at_call 102;(with_reducible refine cx hM (VD u.f0 u.f1 u.f2 u.f3 _) ?_);clear hM;rintro ms W1 ⟨ims,-⟩ hM)|(go_at_call 108;(with_reducible refine cx hM (lu u.pf ms _ ims (hide (jR hM HS.out.pf))) ?_);clear hM;rintro⟨ls,e⟩ W1 ⟨ils,-⟩ hM;dsimp only at ils;try dsimp only));refine rK hK' hM ?_;clear hK' K';refine dC 5 (fun K' hK'=> ?_);go_wp2_with(first|(go_at_call 102;(with_reducible refine cx hM (VD u.f0 u.f1 u.f2 u.f3 _) ?_);clear hM;rintro ms W1 ⟨ims,-⟩ hM)|(go_at_call 108;(with_reducible refine cx hM (lu u.pf ms _ ims (hide (jR hM HS.out.pf))) ?_);clear hM;rintro⟨ls,e⟩ W1 ⟨ils,-⟩ hM;dsimp only at ils;try dsimp only));refine rK hK' hM ?_;clear hK' K';refine rD 6 ?_;refine rD 7 ?_;refine rD 8 ?_;refine rD 9 ?_;refine rD 10 ?_;refine qp qM ?_;go_wp2_with(first|(refine qe ?_;clear hM;intro g W hM));go_loopw [9,37] (fun s9 s wx=>∃(k:Nat) (l:List (Int×Int)) (B:List qZ),k≤u.n∧l.length=k∧s=Iv (k:Int)∧Hid (bZ 55 2 s9 l.length (l.flatMap UO) B)∧Hid (∀x∈l,qz x.1∧qz x.2)∧qF w wx ((gu,u.cells,42)::B)) (fun _ s _=>u.n-(intOf s).toNat)
 case atStart=>exact⟨0,[],[],by omega,rfl,rfl,hide .nil,hide (fun x hx=>by cases hx),hM⟩
 case round=>
  clear hM;obtain⟨k,l,B,hk,hl,rfl,HO,HI,hM⟩:=hrel;replace hl:=hide hl;have hl2:l.length≤1000000:=by have:=hl.out;omega
  by_cases hlt:k<u.n
  ·obtain⟨ba,oa,rfl,hc,ifa⟩:=HA.out k hlt;have HC:=hide hc;clear hc;obtain⟨HNk,hnk⟩:=vU HS.out HSS.out hlt;obtain⟨-,-,-,-,-,isl,ish⟩:=hnk;have icas:=HS.out.cas;have ilsp:=HS.out.lsp;go_upto_region 14 with(first|(go_at_call 109;(with_reducible refine uD hM (tC _ _) ?_ ?_)<;>(clear hM;intro W1 hb hM;clear hb))|(go_at_call 110;(with_reducible refine cx hM (FQ u.pf (fa k) _ ifa (hide (jR hM HS.out.pf))) ?_);clear hM;rintro⟨mo,e⟩ W1 ⟨imo,-⟩ hM;dsimp only at imo;try dsimp only)|((with_reducible refine lX ?_);refine zD hM rfl (by first|exact rfl|(go_simp;done)) rfl (ur rfl) (HC.out) ?_)|(refine qe ?_;clear hM;intro g W hM))
   all_goals first
    |(go_ret2;exact .inl ⟨2,rfl,⟨⟨qG,qG⟩,rfl,rfl⟩,hM.below⟩)
    |skip
   refine qj ?_;refine qA [(gu,u.cells,42)] hM qM ?_;(clear hM;intro W hM);refine rD 0 ?_;refine dL 1 hM ?_ (hv:=hS0.out);refine qj ?_;refine rD 2 ?_;refine dP 3 (v:= .pointer (some ⟨bn,on+k*7,none⟩)) hM ?_ (hv:=by(intro W0;go_simp;first|done|omega|(intro h;exact absurd h qg)));refine qj ?_;refine rD 4 ?_;refine rD 5 ?_;refine jk 6 hM (HNk.out 5 _ rfl) ?_;refine qj ?_;refine rD 7 ?_;refine rD 8 ?_;refine rD 9 ?_;refine dL 10 hM ?_ (hv:=hS0.out);refine qj ?_;refine rD 11 ?_;refine dP 12 (v:= .pointer (some ⟨bn,on+k*7,none⟩)) hM ?_ (hv:=by(intro W0;go_simp;first|done|omega|(intro h;exact absurd h qg)));refine qj ?_;refine rD 13 ?_;refine rD 14 ?_;refine jk 15 hM (HNk.out 6 _ rfl) ?_;refine qj ?_;refine rD 16 ?_;refine rD 17 ?_;refine rD 18 ?_;refine rD 19 ?_;refine rD 20 ?_;refine dC 21 (fun K' hK'=> ?_);refine oN hM ?_;clear hM;intro g14 W hM;refine rK hK' hM ?_;clear hK' K';refine dC 22 (fun K' hK'=> ?_);refine oS hM ?_;clear hM;intro W hM;refine rK hK' hM ?_;clear hK' K';refine qp qM ?_;go_wp2_with(first|((with_reducible refine lX ?_);refine yR hM rfl rfl rfl hS0.out (ur rfl) ?_)|((with_reducible refine uJ ?_);refine' yZ hM rfl rfl ?_ Tryz.underlying130 Ze ?_ qG qG ?_;rotate_left 1;(·constructor);(·rfl);(clear hM;intro g W hM))|((with_reducible refine kD ?_);refine kH UO (_,_) (R:=[(g14,_,55),(gu,u.cells,42)]) hM rfl rfl rfl rfl HO Tryz.underlying130 Ze rfl rfl qG qG hl2 ?_;clear hM;intro V B' W HV hM)|(refine qe ?_;clear hM;intro g W hM))
   all_goals
    (go_roundw
     case rel=>exact⟨k+1,_,B',by omega,by simp[hl.out],by go_num,HV,hide (VA HI.out (by repeat' (first|assumption|apply pM|apply vu|apply ut)) (by repeat' (first|assumption|apply pM|apply vu|apply ut))),qC hM⟩
     case measure=>simp[intOf];omega)
  ·obtain⟨g,cap,cur,hV,hcap,rfl,hP⟩:=Vq HO.out (by have:=hl.out;omega) HI.out;have hln:l.length=u.n:=by have:=hl.out;omega
   rw[hln]at hV hcap;subst hV;have HP:=hide hP;replace hln:=hide hln;clear hP hl HO;go_wp2_with(first|(refine qe ?_;clear hM;intro g W hM))
   all_goals(go_ret2;exact .inr ⟨g,cap,cur,rfl,hcap,⟨l,hln.out,HP.out⟩,qC hM⟩)
theorem KK(u:Su)(f:Nat→Nd)(A B:Option Addr)(ca cb:Nat)(fa fb:Nat→Int)(w:World)(HS:Hid (xF w u f))(HA:Hid (jT w A u.n fa))(HB:Hid (jT w B u.n fb))(hn:u.n≤64):Calls Tryz.prog 56 #[.agg u.cells.toArray,.slice A u.n ca,.slice B u.n cb] w (kY (fun _=>True) w):=by
 have hM:=qo w;go_enter Tryz.func56,Tryz.ntmps56;go_upto_region 0 with fail;refine qj ?_;go_cut [3] (fun s3 wx=>∃gu:Nat,s3= .pointer (some ⟨gu,0,none⟩)∧qF w wx [(gu,u.cells,42)])
 case first=>
  go_wp2_with(first|(refine qe ?_;clear hM;intro g W hM))
  all_goals
   go_meet;exact⟨_,rfl,hM⟩
 case rest=>
 clear hM;obtain⟨gu,rfl,hM⟩:=hcut;go_wp2_with(first|refine zC ?_);go_loopw [25] (fun s wx=>∃k:Nat,k≤u.n∧s=Iv (k:Int)∧qF w wx [(gu,u.cells,42)]) (fun s _=>u.n-(intOf s).toNat)
 case atStart=>exact⟨0,by omega,rfl,hM⟩
 case round=>
  clear hM;obtain⟨k,hk,rfl,hM⟩:=hrel;by_cases hlt:k<u.n
  ·obtain⟨ba,oa,rfl,hc,-⟩:=HA.out k hlt;obtain⟨bb,ob,rfl,hc2,-⟩:=HB.out k hlt;have HC:=hide hc;have HC2:=hide hc2;clear hc hc2;go_wp2_with(first|(go_at_call 118;(with_reducible refine uD hM (bh _ _ _ _) ?_ ?_)<;>(clear hM;intro W1 hb hM;clear hb))|((with_reducible refine lX ?_);refine zD hM rfl (by first|exact rfl|(go_simp;done)) rfl (ur rfl) HC.out ?_)|((with_reducible refine lX ?_);refine zD hM rfl (by first|exact rfl|(go_simp;done)) rfl (ur rfl) HC2.out ?_)|refine zC ?_)
   all_goals first
    |(go_ret;exact⟨_,rfl,⟨⟨qG,qG⟩,trivial⟩,hM.below⟩)
    |(go_roundw
      case rel=>exact⟨k+1,by omega,by go_num,hM⟩
      case measure=>simp[intOf];omega)
  ·go_wp2_with(first|refine zC ?_)
   all_goals(go_ret;exact⟨_,rfl,⟨zg,trivial⟩,hM.below⟩)
abbrev inc(x:Int):List Value:=[Iv x]
theorem Wi(l:List Int):l.flatMap inc=qq5 l.length fun k=>l.getD k 0:=by
 unfold qq5
 have:l.flatMap inc=l.map fun x=>Iv x:=by
  induction l with
  |nil=>rfl
  |cons x l ih=>rw[List.flatMap_cons,ih];rfl
 rw[this];apply List.ext_getElem?;intro k;rw[List.getElem?_map,List.getElem?_map];by_cases h:k<l.length
 ·rw[List.getElem?_range h,List.getElem?_eq_getElem h];simp[h]
 ·rw[List.getElem?_eq_none qg,List.getElem?_eq_none (by simpa using h)];rfl
theorem Tg{e:TypeId}{V:Value}{l:List Int}{B:List qZ}(h:bZ e 1 V l.length (l.flatMap inc) B)(hl:0<l.length)(hi:∀x∈l,qz x):∃g cap cur,V= .slice (some ⟨g,0,none⟩) l.length cap∧(l.length≤cap∧cap≤maxLen)∧B=[(g,cur,e)]∧IL cur l.length fun k=>l.getD k 0:=by
 obtain⟨S,cap,rfl,-⟩:=uY h;obtain⟨g,cur,rfl,rfl,hc⟩:=xw h hl
 cases h with
 |row q1 q2 _ _ _=>
  refine⟨g,cap,cur,rfl,⟨q1,q2⟩,rfl,Eb (by rw[←Wi,←hc,Nat.mul_one]) fun k hk=> ?_⟩;rw[List.getD_eq_getElem?_getD,List.getElem?_eq_getElem hk];exact hi _ (List.getElem_mem hk)
theorem pO{l:List Int}(h:∀x∈l,qz x){a:Int}(ha:qz a):∀x∈l++[a],qz x:=fun x hx=>by
 rcases List.mem_append.1 hx with hx|hx
 ·exact h x hx
 ·rw[List.mem_singleton.1 hx];exact ha
def Wj(u:Su)(w:World)(e:Ending)(w':World):Prop:=(∃(V:Value) (x y q:Int),e= .returned (.tuple #[V,.agg #[Iv x,Iv y],Iv q])∧(qz x∧qz y∧qz q∧(q==0)=false∧(q !=0)=true)∧Below w.heap.size w w')∨
 ∃(g cap:Nat) (cs:List Value) (fv:Nat→Int),e= .returned (.tuple #[.slice (some ⟨g,0,none⟩) u.n cap,.agg #[Iv 0,Iv 0],Iv 0])∧(u.n≤cap∧cap≤maxLen)∧IL cs u.n fv∧qF w w' [(g,cs,2)]
theorem Wk(u:Su)(f:Nat→Nd)(A:Option Addr)(ca:Nat)(fa:Nat→Int)(w:World)(HS:Hid (xF w u f))(HA:Hid (jT w A u.n fa))(hn:2≤u.n∧u.n≤64):Calls Tryz.prog 18 #[.agg u.cells.toArray,.slice A u.n ca] w
 (Wj u w):=by
 have hM:=qo w;have hn63:=HS.out.n63;unfold maxLen at hn63;obtain⟨bn,on,hS,-⟩:=HS.out.nd 0 qg;have hS0:Hid (u.cells[0]? =some (.slice (some ⟨bn,on,none⟩) u.n u.c)):=hide (by rw[←hS];rfl);have HSS:=hide hS;clear hS;go_enter Tryz.func18,Tryz.ntmps18;go_upto_region 0 with fail;refine qj ?_;go_cut [2,5] (fun s2 s5 wx=>∃gu g5:Nat,s2= .pointer (some ⟨gu,0,none⟩)∧s5= .pointer (some ⟨g5,0,none⟩)∧qF w wx [(g5,[Iv 0,Iv 0],67),(gu,u.cells,42)])
 case first=>
  go_wp2_with(first|(refine qe ?_;clear hM;intro g W hM))
  all_goals
   go_meet;exact⟨_,_,rfl,rfl,hM⟩
 case rest=>
 clear hM;obtain⟨gu,g5,rfl,rfl,hM⟩:=hcut;go_upto_region 4 with(first|(refine qe ?_;clear hM;intro g W hM)|(go_at_call 52;(with_reducible refine Qf hM (Wh u f A ca fa _ (hide (jO hM HS.out)) (hide (zW hM HA.out))) ?_ ?_)<;>(clear hM;first|(rintro gs caps css W1 hcaps ⟨v,hv,hP⟩ hM)|(rintro q W1 ⟨hqi,hq1,hq2⟩ hM))))
 all_goals first
  |(refine QR (tg:=67) hM rfl rfl rfl rfl Tryz.isAgg67 Tryz.sizeOf67 rfl (by((repeat constructor)<;>fail)) rfl ?_;exact Or.inl ⟨_,_,_,_,rfl,⟨by first|exact zg|assumption,by first|exact zg|assumption,hqi,hq1,hq2⟩,hM.below⟩)
  |skip
 replace hv:=hide hv;have HPW:=hide hP;clear hP;go_wp2_with(first|((with_reducible refine lX ?_);refine yR hM rfl rfl rfl hS0.out (ur rfl) ?_)|(refine qe ?_;clear hM;intro g W hM));go_loopw [9,10,31] (fun s9 s10 s wx=>∃(k:Nat) (l1 l2:List Int) (B1 B2:List qZ),k≤u.n∧(l1.length=k-1∧l2.length=k)∧s=Iv (k:Int)∧Hid (bZ 2 1 s9 l1.length (l1.flatMap inc) B1)∧Hid (bZ 2 1 s10 l2.length (l2.flatMap inc) B2)∧Hid ((∀x∈l1,qz x)∧∀x∈l2,qz x)∧qF w wx ((gs,css,55)::(g5,[Iv 0,Iv 0],67)::(gu,u.cells,42)::(B1++B2))) (fun _ _ s _=>u.n-(intOf s).toNat)
 case atStart=>exact⟨0,[],[],[],[],by omega,⟨rfl,rfl⟩,rfl,hide .nil,hide .nil,hide ⟨(fun x hx=>by cases hx),(fun x hx=>by cases hx)⟩,hM⟩
 case round=>
  clear hM;obtain⟨k,l1,l2,B1,B2,hk,hll,rfl,HO1,HO2,HI,hM⟩:=hrel;replace hll:=hide hll;have hb1:l1.length≤64:=by have:=hll.out;omega
  have hb2:l2.length≤64:=by have:=hll.out;omega
  by_cases hlt:k<u.n
  ·obtain⟨HC,hnk⟩:=vU HS.out HSS.out hlt;have idd:=hnk.2.2.1;have icas:=HS.out.cas;clear hnk;by_cases hk0:k=0
   ·have hkz:¬(0:Int)<(k:Int):=qg;have HK0:=hide hk0;clear hk0;go_upto_region 10 with(first|((with_reducible refine lX ?_);refine yL hM rfl (by first|exact rfl|(go_simp;done)) rfl (Zg rfl) HC.out (bQ rfl) ?_)|(refine qe ?_;clear hM;intro g W hM));obtain⟨g12,rfl⟩:=uC hM;go_wp2_with(first|((with_reducible refine uJ ?_);refine' yZ hM rfl rfl ?_ Tryz.underlying32 Zh ?_ qG qG ?_;rotate_left 1;(·constructor);(·rfl);(clear hM;intro g W hM))|((with_reducible refine kD ?_);refine kH inc _ (R:=(g12,(f k).cells,57)::(gs,css,55)::(g5,[Iv 0,Iv 0],67)::(gu,u.cells,42)::B1) hM rfl rfl rfl rfl HO2 Tryz.underlying32 Zh rfl rfl qG qG qg ?_;clear hM;intro V B' W HV hM;simp only[List.cons_append,List.nil_append]at hM)|(refine qe ?_;clear hM;intro g W hM))
    all_goals
     (go_roundw
      case rel=>exact⟨k+1,l1,_,B1,B',by omega,⟨by have:=hll.out;have:=HK0.out;omega,by simp[hll.out.2]⟩,by go_num,HO1,HV,hide ⟨HI.out.1,pO HI.out.2 icas⟩,qC hM⟩
      case measure=>simp[intOf];omega)
   ·have hkz:(0:Int)<(k:Int):=qg;go_upto_region 9 with(first|((with_reducible refine lX ?_);refine yL hM rfl (by first|exact rfl|(go_simp;done)) rfl (Zg rfl) HC.out (bQ rfl) ?_)|(refine qe ?_;clear hM;intro g W hM));obtain⟨g12,rfl⟩:=uC hM;replace hM:=qW hM (.cons _ (.cons _ (.cons _ (.cons _ List.perm_append_comm))));go_upto_region 10 with(first|((with_reducible refine uJ ?_);refine' yZ hM rfl rfl ?_ Tryz.underlying32 Zh ?_ qG qG ?_;rotate_left 1;(·constructor);(·rfl);(clear hM;intro g W hM))|((with_reducible refine kD ?_);refine kH inc _ (R:=(g12,(f k).cells,57)::(gs,css,55)::(g5,[Iv 0,Iv 0],67)::(gu,u.cells,42)::B2) hM rfl rfl rfl rfl HO1 Tryz.underlying32 Zh rfl rfl qG qG qg ?_;clear hM;intro V B' W HV hM;simp only[List.cons_append,List.nil_append]at hM)|(refine qe ?_;clear hM;intro g W hM));obtain⟨B1',rfl⟩:∃B1',B1'=B':=⟨_,rfl⟩;obtain⟨V1,rfl⟩:∃V1,V1=V:=⟨_,rfl⟩;have HV1:=HV;clear HV;replace hM:=qW hM (.cons _ (.cons _ (.cons _ (.cons _ List.perm_append_comm))));go_wp2_with(first|((with_reducible refine uJ ?_);refine' yZ hM rfl rfl ?_ Tryz.underlying32 Zh ?_ qG qG ?_;rotate_left 1;(·constructor);(·rfl);(clear hM;intro g W hM))|((with_reducible refine kD ?_);refine kH inc _ (R:=(g12,(f k).cells,57)::(gs,css,55)::(g5,[Iv 0,Iv 0],67)::(gu,u.cells,42)::B1') hM rfl rfl rfl rfl HO2 Tryz.underlying32 Zh rfl rfl qG qG qg ?_;clear hM;intro V B' W HV hM;simp only[List.cons_append,List.nil_append]at hM)|(refine qe ?_;clear hM;intro g W hM))
    all_goals
     (go_roundw
      case rel=>exact⟨k+1,_,_,B1',B',by omega,⟨by have:=hll.out;simp;omega,by simp[hll.out.2]⟩,by go_num,HV1,HV,hide ⟨pO HI.out.1 idd,pO HI.out.2 icas⟩,qC hM⟩
      case measure=>simp[intOf];omega)
  ·obtain⟨g1,cap1,cur1,hV1,hcap1,rfl,hI1⟩:=Tg HO1.out (by have:=hll.out;omega) HI.out.1;obtain⟨g2,cap2,cur2,hV2,hcap2,rfl,hI2⟩:=Tg HO2.out (by have:=hll.out;omega) HI.out.2;have hn1:l1.length=u.n-1:=by have:=hll.out;omega
   have hn3:l2.length=u.n:=by have:=hll.out;omega
   rw[hn1]at hV1 hI1;rw[hn3]at hV2 hI2;subst hV1 hV2;have H1:=hide hI1;have H2:=hide hI2;clear hI1 hI2 hn1 hn3 HO1 HO2 hll HI hb1 hb2 hcap1 hcap2;simp only[List.cons_append,List.nil_append]at hM;have SPC:=fun W h=>sU (some ⟨g1,0,none⟩) (u.n-1) cap1 (fun k=>l1.getD k 0) u.acc u.dec W qg qg h
   go_upto_region 15 with(first|(refine qe ?_;clear hM;intro g W hM)|(go_at_call 53;(with_reducible refine Qf hM (SPC _ (hide (Zq hM H1.out (by((repeat constructor)<;>fail))))) ?_ ?_)<;>(clear hM;first|(rintro gt capt Al W1 hcapt ⟨v2,hv2,hP2⟩ hM)|(rintro q W1 ⟨hqi,hq1,hq2⟩ hM))))
   all_goals first
    |(refine QR (tg:=67) hM rfl rfl rfl rfl Tryz.isAgg67 Tryz.sizeOf67 rfl (by((repeat constructor)<;>fail)) rfl ?_;exact Or.inl ⟨_,_,_,_,rfl,⟨by first|exact zg|assumption,by first|exact zg|assumption,hqi,hq1,hq2⟩,hM.below⟩)
    |skip
   have HW2:∀W L,qF w W L→Lk L gs css 55→zY W (some ⟨gs,0,none⟩) u.n (pq v):=fun W L h hl=>by
    have:=xD h HPW.out hl
    rwa[hv.out]at this
   have HT2:∀W L,qF w W L→Lk L gt Al 196→zY W (some ⟨gt,0,none⟩) (u.n-1) (pq v2):=fun W L h hl=>by
    have:=xD h hP2 hl
    rwa[hv2]at this
   have PLC:=fun W h1 h2 h3=>WU (some ⟨gs,0,none⟩) (some ⟨gt,0,none⟩) (some ⟨g2,0,none⟩) v v2 (fun k=>l2.getD k 0) caps capt cap2 W (by have:=hv.out;omega) (by have:=hv.out;omega) qg qg (by have:=hcapt.2;unfold maxLen at this;omega) h1 h2 h3
   have CC:=fun W h1 h2=>YJ (some ⟨gs,0,none⟩) (some ⟨gt,0,none⟩) v v2 caps capt W (by have:=hv.out;omega) qg qg (by have:=hcapt.2;unfold maxLen at this;omega) h1 h2
   simp only[hv.out,hv2]at PLC CC;replace hv2:=hide hv2;clear hP2 SPC;go_upto_region 16 with(first|(refine qe ?_;clear hM;intro g W hM)|(go_at_call 54;(with_reducible refine Qf hM (PLC _ (hide (HW2 _ _ hM (by((repeat constructor)<;>fail)))) (hide (HT2 _ _ hM (by((repeat constructor)<;>fail)))) (hide (Zq hM H2.out (by((repeat constructor)<;>fail))))) ?_ ?_)<;>(clear hM;first|(rintro gv capv csv W1 hcapv ⟨fv,hfv⟩ hM)|(rintro q W1 ⟨hqi,hq1,hq2⟩ hM))));rotate_left
   ·have HF:=hide hfv;clear hfv;go_wp2_with(first|(refine qe ?_;clear hM;intro g W hM))
    all_goals(refine QR (tg:=67) hM rfl rfl rfl rfl Tryz.isAgg67 Tryz.sizeOf67 rfl (by((repeat constructor)<;>fail)) rfl ?_;exact Or.inr ⟨gv,capv,csv,fv,rfl,hcapv,HF.out,uK hM (List.Sublist.cons_cons _ (List.nil_sublist _))⟩)
   ·by_cases h11:q=11
    ·subst h11;go_upto_region 19 with(first|(refine qe ?_;clear hM;intro g W hM)|(go_at_call 51;(with_reducible refine cx hM (CC _ (hide (HW2 _ _ hM (by((repeat constructor)<;>fail)))) (hide (HT2 _ _ hM (by((repeat constructor)<;>fail))))) ?_);clear hM;rintro⟨p,q2,bo,e2⟩ W1 ⟨ip,iq2,ie2⟩ hM;dsimp only at ip iq2;try dsimp only));obtain⟨g15,rfl⟩:=uC hM;refine qj ?_;refine qA [(g15,[Iv p,Iv q2],67)] hM qM ?_;(clear hM;intro W hM);refine rD 0 ?_;refine rD 1 ?_;refine rD 2 ?_;refine dC 3 (fun K' hK'=> ?_);refine oS hM ?_;clear hM;intro W hM;refine rK hK' hM ?_;clear hK' K';refine rD 4 ?_;refine qp qM ?_;go_wp2_with fail
     all_goals(refine QR (tg:=67) hM rfl rfl rfl rfl Tryz.isAgg67 Tryz.sizeOf67 rfl (by((repeat constructor)<;>fail)) rfl ?_;exact Or.inl ⟨_,_,_,_,rfl,⟨by first|exact zg|assumption,by first|exact zg|assumption,hqi,hq1,hq2⟩,hM.below⟩)
    ·have h12:(q !=11)=true:=by simpa using h11
     go_wp2_with(first|(refine qe ?_;clear hM;intro g W hM))
     all_goals(refine QR (tg:=67) hM rfl rfl rfl rfl Tryz.isAgg67 Tryz.sizeOf67 rfl (by((repeat constructor)<;>fail)) rfl ?_;exact Or.inl ⟨_,_,_,_,rfl,⟨by first|exact zg|assumption,by first|exact zg|assumption,hqi,hq1,hq2⟩,hM.below⟩)
theorem Bu:∀(cs:List Value) (off n:Nat) (C:List Value),(cs.drop off).take n=C→C.length=n→off≤cs.length→Part cs off n C
 |cs,0,0,C,h,hl,_=>by
  obtain rfl:=List.length_eq_zero_iff.1 hl;exact .nil
 | [],0,n+1,C,h,hl,_=>by simp at h;subst h;simp at hl
 |c::cs,0,n+1,C,h,hl,_=>by
  simp only[List.drop_zero,List.take_succ_cons]at h;subst h;exact .take (Bu cs 0 n _ rfl (by simpa using hl) (Nat.zero_le _))
 | [],off+1,n,C,h,hl,ho=>by simp at ho
 |c::cs,off+1,n,C,h,hl,ho=> .drop (Bu cs off n C (by simpa using h) hl (by simpa using ho))
theorem Ri(ps:List Pa):(ps.flatMap Pa.cells).length=ps.length*13:=by
 induction ps with
 |nil=>rfl
 |cons p ps ih=>rw[List.flatMap_cons,List.length_append,ih];simp;omega
theorem MG{cs:List Value}{ps:List Pa}{k:Nat}{p:Pa}(h:cs.take (ps.length*13)=ps.flatMap Pa.cells)(hk:ps[k]? =some p):(cs.drop (k*13)).take 13=p.cells∧k*13+13≤cs.length:=by
 have hkl:=(List.getElem?_eq_some_iff.1 hk).1;have hl:=congrArg List.length h;rw[List.length_take,Ri]at hl
 have key:∀(ps:List Pa) (k:Nat),ps[k]? =some p→((ps.flatMap Pa.cells).drop (k*13)).take 13=p.cells:=by
  intro ps
  induction ps with
  |nil=>intro k h;simp at h
  |cons x ps ih=>
   intro k h;rcases k with _|k
   ·simp at h;subst h;rw[List.flatMap_cons,Nat.zero_mul,List.drop_zero];rfl
   ·have:=ih k (by simpa using h);rw[List.flatMap_cons,show(k+1)*13=x.cells.length+k*13 by simp;omega,←List.drop_drop,List.drop_left];exact this
 refine⟨?_,qg⟩;rw[←key ps k hk,←h];rw[List.drop_take,List.take_take,Nat.min_eq_left qg]
def Bv(f:Nat→Nd)(fa:Nat→Int)(ps:List Pa):Prop:=(∀x∈ps,x.ok)∧(∀p,ps[0]? =some p→p.ti=0)∧∀(i:Nat) (x y:Pa),ps[i]? =some x→ps[i+1]? =some y→y.al=fa (i+1)∧1≤y.gr∧y.ti=wrap64 (x.ti+(qL 1 (f (i+1)).d 1 y.gr).1)
theorem Wn{f:Nat→Nd}{fa:Nat→Int}{p:Pa}(h:p.ok)(h0:p.ti=0):Bv f fa [p]:=⟨fun x hx=>by rw[List.mem_singleton.1 hx];exact h,fun q hq=>by simp at hq;subst hq;exact h0,fun i x y hx hy=>by simp at hy⟩
theorem rU{f:Nat→Nd}{fa:Nat→Int}{ps:List Pa}{k:Nat}{p:Pa}{r:Pa×Int}(h:Bv f fa ps)(hl:ps.length=k+1)(hp:ps[k]? =some p)(hr:MF f fa k p r)(hz:r.2=0):Bv f fa (ps++[r.1]):=by
 refine⟨fun x hx=> ?_,fun q hq=> ?_,fun i x y hx hy=> ?_⟩
 ·rcases List.mem_append.1 hx with hx|hx
  ·exact h.1 x hx
  ·rw[List.mem_singleton.1 hx];exact hr.1
 ·rw[List.getElem?_append_left qg]at hq;exact h.2.1 q hq
 ·by_cases e:i+1<ps.length
  ·rw[List.getElem?_append_left e]at hy;rw[List.getElem?_append_left qg]at hx;exact h.2.2 i x y hx hy
  ·have hy1:=(List.getElem?_eq_some_iff.1 hy).1;rw[List.length_append,List.length_singleton]at hy1;obtain rfl:i=k:=qg;rw[List.getElem?_append_left qg,hp]at hx;injection hx with hx;subst hx;rw[List.getElem?_append_right qg,show i+1-ps.length=0 by omega]at hy;simp at hy;subst hy;exact hr.2.2 hz
theorem pQ:yw Tryz.prog 74 13 104:=by unfold yw;kernel_rfl
def Cc(f:Nat→Nd)(fa:Nat→Int)(n:Nat)(cs:List Value):Prop:=∃ps:List Pa,ps.length=n∧cs.take (n*13)=ps.flatMap Pa.cells∧Bv f fa ps
theorem Rj{e:TypeId}{V:Value}{ps:List Pa}{B:List qZ}(h:bZ e 13 V ps.length (ps.flatMap Pa.cells) B)(hl:0<ps.length):∃g cap cur,V= .slice (some ⟨g,0,none⟩) ps.length cap∧(ps.length≤cap∧cap≤maxLen)∧B=[(g,cur,e)]∧cur.take (ps.length*13)=ps.flatMap Pa.cells:=by
 obtain⟨S,cap,rfl,-⟩:=uY h;obtain⟨g,cur,rfl,rfl,hc⟩:=xw h hl
 cases h with
 |row q1 q2 _ _ _=>exact⟨g,cap,cur,rfl,⟨q1,q2⟩,rfl,hc⟩
theorem Rk(u:Su)(f:Nat→Nd)(A B:Option Addr)(qa qb:Nat)(fa fb:Nat→Int)(w:World)(HS:Hid (xF w u f))(HA:Hid (jT w A u.n fa))(HB:Hid (jT w B u.n fb))(hn64:u.n≤64):Calls Tryz.prog 19 #[.agg u.cells.toArray,.slice A u.n qa,.slice B u.n qb] w (KI 74 u.n (fun cs=>KJ u f∧Cc f fa u.n cs) w):=by
 have hM:=qo w;go_enter Tryz.func19,Tryz.ntmps19;go_upto_region 7 with(first|(refine qe ?_;clear hM;intro g W hM)|(go_at_call 55;(with_reducible refine Bq hM (Yw u f _ (hide (jO hM HS.out))) ?_ ?_)<;>(clear hM;first|(intro q W1 hq hz hz1 hM)|(intro W1 HK hM)))|(go_at_call 56;(with_reducible refine cx hM (KK u f A B qa qb fa fb _ (hide (jO hM HS.out)) (hide (zW hM HA.out)) (hide (zW hM HB.out)) hn64) ?_);clear hM;rintro qf W1 ⟨hq,-⟩ hM;by_cases hz:qf=0<;>first|subst hz|(have hz1:(qf !=0)=true:=by simpa using hz)))
 all_goals first
  |(go_ret2;exact .inl ⟨_,rfl,⟨hq,by simpa using hz,hz1⟩,hM.below⟩)
  |skip
 obtain⟨gu,rfl⟩:=uC hM;have hn2:=HK.out.n;have hn63:=HS.out.n63;unfold maxLen at hn63;obtain⟨bn,on,hS,-⟩:=HS.out.nd 0 qg;have hS0:Hid (u.cells[0]? =some (.slice (some ⟨bn,on,none⟩) u.n u.c)):=hide (by rw[←hS];rfl);obtain⟨HN0,-⟩:=vU HS.out hS (k:=0) qg;rw[show(0:Nat)*7=0 from rfl,Nat.add_zero]at HN0;obtain⟨ba,oa,hSA⟩:=gJ HA.out qg;obtain⟨bb,ob,hSB⟩:=gJ HB.out qg;subst hSA hSB;have h0:0<u.n:=qg;have ifa:=(zE HA.out h0).2;have ifb:=(zE HB.out h0).2;clear hS;go_upto_region 8 with(first|(refine qe ?_;clear hM;intro g W hM)|(go_at_call 57;(with_reducible refine cx hM (Gc u.f0 u.f1 u.f2 u.f3 _) ?_);clear hM;rintro lf W1 ⟨ilf,-⟩ hM));refine qj ?_;go_cut [11] (fun s wx=>∃g11:Nat,s= .pointer (some ⟨g11,0,none⟩)∧qF w wx [(g11,[Iv (fa 0),Iv (fb 0),Iv 0,Iv 0,Iv 0,Iv lf,Iv 0,Iv 0,Iv 0,Iv 0,Iv lf,Iv lf,.int .u8 0],74),(gu,u.cells,42)])
 case first=>
  as_aux_lemma=>
   refine qA [(gu,u.cells,42)] hM qM ?_;(clear hM;intro W hM);refine rD 0 ?_;refine dP 1 (v:= .pointer (some ⟨ba,oa,none⟩)) hM ?_ (hv:=by(intro W0;go_simp;first|done|omega|(intro h;exact absurd h qg)));refine qj ?_;refine jk 2 hM ((zE HA.out h0).1) ?_;refine qj ?_;refine rD 3 ?_;refine dP 4 (v:= .pointer (some ⟨bb,ob,none⟩)) hM ?_ (hv:=by(intro W0;go_simp;first|done|omega|(intro h;exact absurd h qg)));refine qj ?_;refine jk 5 hM ((zE HB.out h0).1) ?_;refine qj ?_;refine rD 6 ?_;refine rD 7 ?_;refine rD 8 ?_;refine rD 9 ?_;refine rD 10 ?_;refine dC 11 (fun K' hK'=> ?_);refine oN hM ?_;clear hM;intro g11 W hM;refine rK hK' hM ?_;clear hK' K';refine dC 12 (fun K' hK'=> ?_);refine oS hM ?_;clear hM;intro W hM;refine rK hK' hM ?_;clear hK' K';refine qp qM ?_;go_wp2_with fail
   all_goals
    go_meet;exact⟨_,rfl,hM⟩
 case rest=>
 clear hM;obtain⟨g11,rfl,hM⟩:=hcut;go_upto_region 9 with fail;refine qj ?_;go_cut [12,13] (fun s12 s13 wx=>∃(g12:Nat) (we wn dv:Int),s12= .pointer (some ⟨g12,0,none⟩)∧s13=Iv dv∧qF w wx [(g12,[Iv we,Iv wn],145),(g11,[Iv (fa 0),Iv (fb 0),Iv 0,Iv 0,Iv 0,Iv lf,Iv 0,Iv 0,Iv 0,Iv 0,Iv lf,Iv lf,.int .u8 0],74),(gu,u.cells,42)])
 case first=>
  as_aux_lemma=>
   refine qA [(g11,[Iv (fa 0),Iv (fb 0),Iv 0,Iv 0,Iv 0,Iv lf,Iv 0,Iv 0,Iv 0,Iv 0,Iv lf,Iv lf,.int .u8 0],74),(gu,u.cells,42)] hM qM ?_;(clear hM;intro W hM);refine rD 0 ?_;refine rD 1 ?_;refine rD 2 ?_;refine dL 3 hM ?_ (hv:=hS0.out);refine qj ?_;refine dP 4 (v:= .pointer (some ⟨bn,on,none⟩)) hM ?_ (hv:=by(intro W0;go_simp;first|done|omega|(intro h;exact absurd h qg)));refine qj ?_;refine rD 5 ?_;refine Qp 6 hM (fun j v hj=>HN0.out j v (Td hj)) ?_;refine qj ?_;refine rD 7 ?_;refine dP 8 (v:= .pointer (some ⟨ba,oa,none⟩)) hM ?_ (hv:=by(intro W0;go_simp;first|done|omega|(intro h;exact absurd h qg)));refine qj ?_;refine jk 9 hM ((zE HA.out h0).1) ?_;refine qj ?_;refine dT 10 15 (fun K' hK'=> ?_) (fun K' hK'=> ?_)
   ·
    go_wp2_with(first|(go_at_call 58;(with_reducible refine cx hM (Fx u.gd _ _ _ _ (hide (zZ hM HS.out.gd))) ?_);clear hM;rintro⟨e,n,d,r⟩ W1 ⟨ie,in_,id_,-⟩ hM;dsimp only at ie in_ id_;try dsimp only));refine rK hK' hM ?_;clear hK' K';refine rD 11 ?_;refine rD 12 ?_;refine rD 13 ?_;refine rD 14 ?_;refine dC 15 (fun K' hK'=> ?_);refine oN hM ?_;clear hM;intro g12 W hM;refine rK hK' hM ?_;clear hK' K';refine dC 16 (fun K' hK'=> ?_);refine oS hM ?_;clear hM;intro W hM;refine rK hK' hM ?_;clear hK' K';refine rD 17 ?_;refine rD 18 ?_;refine qp qM ?_;go_wp2_with fail
    all_goals
     go_meet;exact⟨_,_,_,_,rfl,rfl,hM⟩
   ·
    refine oN hM ?_;clear hM;intro g12 W hM;refine rK hK' hM ?_;clear hK' K';refine dC 10 (fun K' hK'=> ?_);go_wp2_with(first|(go_at_call 58;(with_reducible refine cx hM (Fx u.gd _ _ _ _ (hide (zZ hM HS.out.gd))) ?_);clear hM;rintro⟨e,n,d,r⟩ W1 ⟨ie,in_,id_,-⟩ hM;dsimp only at ie in_ id_;try dsimp only));refine rK hK' hM ?_;clear hK' K';refine rD 11 ?_;refine rD 12 ?_;refine rD 13 ?_;refine rD 14 ?_;refine dC 16 (fun K' hK'=> ?_);refine oS hM ?_;clear hM;intro W hM;refine rK hK' hM ?_;clear hK' K';refine rD 17 ?_;refine rD 18 ?_;refine qp qM ?_;go_wp2_with fail
    all_goals
     go_meet;exact⟨_,_,_,_,rfl,rfl,hM⟩
 case rest=>
 clear hM;obtain⟨g12,we,wn,dv,rfl,rfl,hM⟩:=hcut;go_upto_region 10 with fail;refine qj ?_;go_cut [] (fun wx=>∃ts:Int,qz ts∧qF w wx [(g12,[Iv we,Iv wn],145),(g11,[Iv (fa 0),Iv (fb 0),Iv ts,Iv 0,Iv 0,Iv lf,Iv 0,Iv 0,Iv 0,Iv 0,Iv lf,Iv lf,.int .u8 0],74),(gu,u.cells,42)])
 case first=>
  as_aux_lemma=>
   refine qA [(g12,[Iv we,Iv wn],145),(gu,u.cells,42)] hM qM ?_;(clear hM;intro W hM);refine rD 0 ?_;refine dP 1 (v:= .pointer (some ⟨bb,ob,none⟩)) hM ?_ (hv:=by(intro W0;go_simp;first|done|omega|(intro h;exact absurd h qg)));refine qj ?_;refine jk 2 hM ((zE HB.out h0).1) ?_;refine qj ?_;refine rD 3 ?_;refine rD 4 ?_;refine rD 5 ?_;refine dP 6 (v:= .pointer (some ⟨ba,oa,none⟩)) hM ?_ (hv:=by(intro W0;go_simp;first|done|omega|(intro h;exact absurd h qg)));refine qj ?_;refine jk 7 hM ((zE HA.out h0).1) ?_;refine qj ?_;refine rD 8 ?_;refine dC 9 (fun K' hK'=> ?_);go_wp2_with(first|(go_at_call 59;(with_reducible refine cx hM (Vs _ _ _ _ _ ifa) ?_);clear hM;rintro⟨ts,e⟩ W1 ⟨its,-⟩ hM;dsimp only at its;try dsimp only));refine rK hK' hM ?_;clear hK' K';refine rD 10 ?_;refine rD 11 ?_;refine rD 12 ?_;refine rD 13 ?_;refine dC 14 (fun K' hK'=> ?_);refine oS hM ?_;clear hM;intro W hM;refine rK hK' hM ?_;clear hK' K';refine qp qM ?_;go_wp2_with fail
   all_goals
    go_meet;exact⟨_,by assumption,hM⟩
 case rest=>
 clear hM;obtain⟨ts,its,hM⟩:=hcut;go_upto_region 12 with(first|((with_reducible refine uJ ?_);refine' yZ hM rfl rfl ?_ Tryz.underlying65 pQ ?_ qG qG ?_;rotate_left 1;(·constructor);(·rfl);(clear hM;intro gv W hM))|(refine qe ?_;clear hM;intro g W hM));have HO1:Hid (bZ 74 13 (.slice (some ⟨gv,0,none⟩) 1 1) [(⟨fa 0,fb 0,ts,0,0,lf,0,0,0,0,lf,lf,0⟩:Pa)].length ([(⟨fa 0,fb 0,ts,0,0,lf,0,0,0,0,lf,lf,0⟩:Pa)].flatMap Pa.cells) [(gv,Pa.cells ⟨fa 0,fb 0,ts,0,0,lf,0,0,0,0,lf,lf,0⟩,74)]):=hide (.row (Nat.le_refl _) qG rfl rfl rfl);have HI1:Hid (Bv f fa [(⟨fa 0,fb 0,ts,0,0,lf,0,0,0,0,lf,lf,0⟩:Pa)]):=hide (Wn ⟨ifa,ifb,its,zg,zg,ilf,zg,zg,zg,zg,ilf,ilf⟩ rfl);replace hM:qF w W ([(g12,[Iv we,Iv wn],145),(g11,[Iv (fa 0),Iv (fb 0),Iv ts,Iv 0,Iv 0,Iv lf,Iv 0,Iv 0,Iv 0,Iv 0,Iv lf,Iv lf,.int .u8 0],74),(gu,u.cells,42)]++[(gv,Pa.cells ⟨fa 0,fb 0,ts,0,0,lf,0,0,0,0,lf,lf,0⟩,74)]):=qW hM (List.perm_append_comm (l₁:=[_]));simp only[List.cons_append,List.nil_append]at hM;go_wp2_with(first|(refine qe ?_;clear hM;intro g W hM));go_loopw [15,16] (fun s15 s wx=>∃(k:Nat) (ps:List Pa) (B:List qZ),k<u.n∧s=Iv ((k:Int)+1)∧ps.length=k+1∧Hid (bZ 74 13 s15 ps.length (ps.flatMap Pa.cells) B)∧Hid (Bv f fa ps)∧qF w wx ((g12,[Iv we,Iv wn],145)::(g11,[Iv (fa 0),Iv (fb 0),Iv ts,Iv 0,Iv 0,Iv lf,Iv 0,Iv 0,Iv 0,Iv 0,Iv lf,Iv lf,.int .u8 0],74)::(gu,u.cells,42)::B)) (fun _ s _=>u.n+1-(intOf s).toNat)
 case atStart=>exact⟨0,_,_,h0,rfl,rfl,HO1,HI1,hM⟩
 case round=>
  clear hM HO1 HI1;obtain⟨k,ps,B,hk,rfl,hl,HO,HI,hM⟩:=hrel;obtain⟨gv,cap,cur,hV,hcap,rfl,hcur⟩:=Rj HO.out qg;replace hl:=hide hl;have hl2:ps.length≤1000000:=by have:=hl.out;omega
  by_cases hlt:k+1<u.n
  ·have hlt1:(k:Int)+1<(u.n:Int):=qg;have wm:=zT (x:=(k:Int)+1-1) (y:=(k:Int)) qg qg;have wk:=IntWalk.i64_in ((k:Int)+1+1) qg;obtain⟨p,hp⟩:∃p,ps[k]? =some p:=⟨_,List.getElem?_eq_getElem (by have:=hl.out;omega)⟩;have hpt:=MG hcur hp;have HPT:=hide (Bu cur (k*13) 13 p.cells hpt.1 rfl qg);have HP:p.ok:=HI.out.1 p (List.mem_of_getElem? hp);have HPP:=hide hp;have hkl:k<ps.length:=by have:=hl.out;omega
   have hlv:(k:Int)<(ps.length:Int):=qg;clear hp hpt hcur;subst hV;go_upto_region 15 with(first|((with_reducible refine lX ?_);refine yR hM rfl rfl rfl hS0.out (ur rfl) ?_)|(refine qe ?_;clear hM;intro g W hM));refine qj ?_;go_cut [17,18] (fun s17 s18 wx=>∃(g17:Nat) (rp:Pa) (rq:Int),s17= .pointer (some ⟨g17,0,none⟩)∧s18=Iv rq∧Hid (MF f fa k p (rp,rq))∧qF w wx ((g17,rp.cells,74)::[(g12,[Iv we,Iv wn],145),(g11,[Iv (fa 0),Iv (fb 0),Iv ts,Iv 0,Iv 0,Iv lf,Iv 0,Iv 0,Iv 0,Iv 0,Iv lf,Iv lf,.int .u8 0],74),(gu,u.cells,42),(gv,cur,74)]))
   case first=>
    as_aux_lemma=>
     refine qA [(gv,cur,74),(g12,[Iv we,Iv wn],145),(g11,[Iv (fa 0),Iv (fb 0),Iv ts,Iv 0,Iv 0,Iv lf,Iv 0,Iv 0,Iv 0,Iv 0,Iv lf,Iv lf,.int .u8 0],74),(gu,u.cells,42)] hM qM ?_;(clear hM;intro W hM);refine rD 0 ?_;refine rD 1 ?_;refine rD 2 ?_;refine dP 3 (v:=Iv ((k:Int))) hM ?_ (hv:=by(intro W0;go_simp<;>first|assumption|rfl|exact zT qg qg));refine qj ?_;refine dP 4 (v:= .pointer (some ⟨gv,k*13,none⟩)) hM ?_ (hv:=by(intro W0;go_simp;first|done|omega|(intro h;exact absurd h qg)));refine qj ?_;refine dM 5 hM ?_ (hC:=HPT.out);refine qj ?_;refine rD 6 ?_;refine rD 7 ?_;refine rD 8 ?_;refine dT 9 13 (fun K' hK'=> ?_) (fun K' hK'=> ?_)
     ·
      go_wp2_with(first|(go_at_call 60;(with_reducible refine cx hM (Wm u f (some ⟨ba,oa,none⟩) (some ⟨bb,ob,none⟩) qa qb fa fb p k _ (hide (jO hM HS.out)) HK hlt (hide (zW hM HA.out)) (hide (zW hM HB.out)) HP) ?_);clear hM;rintro⟨rp,rq⟩ W1 hr hM;have HR:=hide hr;clear hr;try dsimp only));refine rK hK' hM ?_;clear hK' K';refine rD 10 ?_;refine rD 11 ?_;refine rD 12 ?_;refine dC 13 (fun K' hK'=> ?_);refine oN hM ?_;clear hM;intro g17 W hM;refine rK hK' hM ?_;clear hK' K';refine dC 14 (fun K' hK'=> ?_);refine oS hM ?_;clear hM;intro W hM;refine rK hK' hM ?_;clear hK' K';refine rD 15 ?_;refine qp qM ?_;go_wp2_with fail
      all_goals
       go_meet;exact⟨_,_,_,rfl,rfl,HR,hM⟩
     ·
      refine oN hM ?_;clear hM;intro g17 W hM;refine rK hK' hM ?_;clear hK' K';refine dC 9 (fun K' hK'=> ?_);go_wp2_with(first|(go_at_call 60;(with_reducible refine cx hM (Wm u f (some ⟨ba,oa,none⟩) (some ⟨bb,ob,none⟩) qa qb fa fb p k _ (hide (jO hM HS.out)) HK hlt (hide (zW hM HA.out)) (hide (zW hM HB.out)) HP) ?_);clear hM;rintro⟨rp,rq⟩ W1 hr hM;have HR:=hide hr;clear hr;try dsimp only));refine rK hK' hM ?_;clear hK' K';refine rD 10 ?_;refine rD 11 ?_;refine rD 12 ?_;refine dC 14 (fun K' hK'=> ?_);refine oS hM ?_;clear hM;intro W hM;refine rK hK' hM ?_;clear hK' K';refine rD 15 ?_;refine qp qM ?_;go_wp2_with fail
      all_goals
       go_meet;exact⟨_,_,_,rfl,rfl,HR,hM⟩
   case rest=>
   clear hM HPT;obtain⟨g17,rp,rq,rfl,rfl,HR,hM⟩:=hcut;by_cases hq:rq=0
   ·subst hq;go_wp2_with(first|((with_reducible refine lX ?_);refine yR hM rfl rfl rfl hS0.out (ur rfl) ?_)|((with_reducible refine uJ ?_);refine' yZ hM rfl rfl ?_ Tryz.underlying65 pQ ?_ qG qG ?_;rotate_left 1;(·constructor);(·rfl);(clear hM;intro g W hM))|((with_reducible refine kD ?_);refine kH Pa.cells rp (R:=[(g17,rp.cells,74),(g12,[Iv we,Iv wn],145),(g11,[Iv (fa 0),Iv (fb 0),Iv ts,Iv 0,Iv 0,Iv lf,Iv 0,Iv 0,Iv 0,Iv 0,Iv lf,Iv lf,.int .u8 0],74),(gu,u.cells,42)]) hM rfl rfl rfl rfl HO Tryz.underlying65 pQ rfl rfl qG qG hl2 ?_;clear hM;intro V B' W HV hM;simp only[List.cons_append,List.nil_append]at hM)|(refine qe ?_;clear hM;intro g W hM))
    all_goals
     (go_roundw
      case rel=>exact⟨k+1,_,B',by omega,by go_num,by simp[hl.out],HV,hide (rU HI.out hl.out HPP.out HR.out rfl),qC hM⟩
      case measure=>simp[intOf];omega)
   ·have hq1:(rq==0)=false:=by simpa using hq
    have hq2:(rq !=0)=true:=by simpa using hq
    have hqi:=HR.out.2.1;clear hq;go_wp2_with(first|(refine qe ?_;clear hM;intro g W hM))
    all_goals(go_ret2;exact .inl ⟨_,rfl,⟨hqi,hq1,hq2⟩,hM.below⟩)
  ·have hlt1:¬((k:Int)+1<(u.n:Int)):=qg;have hn3:ps.length=u.n:=by have:=hl.out;omega
   rw[hn3]at hV hcap hcur;subst hV;have HC:=hide hcur;replace hn3:=hide hn3;clear hcur hl HO hl2;go_wp2_with(first|((with_reducible refine lX ?_);refine yR hM rfl rfl rfl hS0.out (ur rfl) ?_)|(refine qe ?_;clear hM;intro g W hM))
   all_goals(go_ret2;exact .inr ⟨gv,cap,cur,rfl,hcap,⟨HK.out,ps,hn3.out,HC.out,HI.out⟩,qC (qC (qC hM))⟩)
def MH(u:Su)(f:Nat→Nd)(w:World)(e:Ending)(w':World):Prop:=(∃(x y:Int) (b:Bool) (q:Int),e= .returned (.tuple #[.agg #[.slice none 0 0,Iv x,Iv y,.bool b],Iv q])∧(qz q∧(q !=0)=true)∧Below w.heap.size w w')∨
 ∃(g cap:Nat) (cs:List Value) (fa:Nat→Int),e= .returned (.tuple #[.agg #[.slice (some ⟨g,0,none⟩) u.n cap,Iv 0,Iv 0,.bool false],Iv 0])∧(u.n≤cap∧cap≤maxLen)∧(KJ u f∧rV (ZE f u.n) u.n fa∧Cc f fa u.n cs)∧qF w w' [(g,cs,74)]
theorem Ee(u:Su)(f:Nat→Nd)(w:World)(HS:Hid (xF w u f)):Calls Tryz.prog 6 #[.agg u.cells.toArray] w (MH u f w):=by
 have hM:=qo w;go_enter Tryz.func6,Tryz.ntmps6;go_upto_region 0 with fail;refine qj ?_;go_cut [1,2] (fun s1 s2 wx=>∃gu g2:Nat,s1= .pointer (some ⟨gu,0,none⟩)∧s2= .pointer (some ⟨g2,0,none⟩)∧qF w wx [(g2,[.slice none 0 0,Iv 0,Iv 0,.bool false],69),(gu,u.cells,42)])
 case first=>
  go_wp2_with(first|(refine qe ?_;clear hM;intro g W hM))
  all_goals
   go_meet;exact⟨_,_,rfl,rfl,hM⟩
 case rest=>
 clear hM;obtain⟨gu,g2,rfl,rfl,hM⟩:=hcut;go_upto_region 2 with(first|(refine qe ?_;clear hM;intro g W hM)|(go_at_call 17;(with_reducible refine(Tf u f _ (hide (jO hM HS.out))).mono ?_);rintro e W1 (⟨x,y,q,rfl,⟨ix,iy,iq,hq1,hq2⟩,hb⟩|⟨ga,capa,csa,fa,rfl,hcapa,⟨hK,hIa,hWa⟩,hm⟩)<;>first|(replace hM:=qD hM hb;clear hb)|(replace hM:=Yu hM hm;clear hm;simp only[List.cons_append,List.nil_append]at hM)))
 ·go_wp2_with(first|(refine qe ?_;clear hM;intro g W hM))
  all_goals(refine' qU hM rfl rfl Tryz.isAgg69 Tryz.sizeOf69 rfl rfl ?_ ?_ ?_;rotate_left 2;(·repeat constructor);(·rfl);(·exact Or.inl ⟨_,_,_,_,rfl,⟨iq,hq2⟩,hM.below⟩))
 obtain⟨g5,rfl⟩:=uC hM;have HIA:=hide hIa;have HWA:=hide hWa;have hn:=hK.n;have HKK:=hide hK;clear hIa hWa hK;go_upto_region 5 with(first|(refine qe ?_;clear hM;intro g W hM)|(go_at_call 18;(with_reducible refine(Wk u f (some ⟨ga,0,none⟩) capa fa _ (hide (jO hM HS.out)) (hide (Zq hM HIA.out (by((repeat constructor)<;>fail)))) hn).mono ?_);rintro e W1 (⟨V,x,y,q,rfl,⟨ix,iy,iq,hq1,hq2⟩,hb⟩|⟨gs,caps,css,fs,rfl,hcaps,hIs,hm⟩)<;>first|(replace hM:=qD hM hb;clear hb)|(replace hM:=Yu hM hm;clear hm;simp only[List.cons_append,List.nil_append]at hM)))
 ·by_cases h11:q=11
  ·have h11b:(q==11)=true:=by simpa using h11
   clear h11;go_wp2_with(first|(refine qe ?_;clear hM;intro g W hM))
   all_goals(refine' qU hM rfl rfl Tryz.isAgg69 Tryz.sizeOf69 rfl rfl ?_ ?_ ?_;rotate_left 2;(·repeat constructor);(·rfl);(·exact Or.inl ⟨_,_,_,_,rfl,⟨iq,hq2⟩,hM.below⟩))
  ·have h11b:(q==11)=false:=by simpa using h11
   clear h11;go_wp2_with(first|(refine qe ?_;clear hM;intro g W hM))
   all_goals(refine' qU hM rfl rfl Tryz.isAgg69 Tryz.sizeOf69 rfl rfl ?_ ?_ ?_;rotate_left 2;(·repeat constructor);(·rfl);(·exact Or.inl ⟨_,_,_,_,rfl,⟨iq,hq2⟩,hM.below⟩))
 have HIS:=hide hIs;clear hIs;go_upto_region 10 with(first|(refine qe ?_;clear hM;intro g W hM)|(go_at_call 19;(with_reducible refine Qf hM (Rk u f (some ⟨ga,0,none⟩) (some ⟨gs,0,none⟩) capa caps fa fs _ (hide (jO hM HS.out)) (hide (Zq hM HIA.out (by((repeat constructor)<;>fail)))) (hide (Zq hM HIS.out (by((repeat constructor)<;>fail)))) hn.2) ?_ ?_)<;>(clear hM;first|(rintro gp capp csp W1 hcapp ⟨-,hP⟩ hM)|(rintro q W1 ⟨hqi,hq1,hq2⟩ hM))))
 ·go_wp2_with(first|(refine qe ?_;clear hM;intro g W hM))
  all_goals(refine' qU hM rfl rfl Tryz.isAgg69 Tryz.sizeOf69 rfl rfl ?_ ?_ ?_;rotate_left 2;(·repeat constructor);(·rfl);(·exact Or.inl ⟨_,_,_,_,rfl,⟨hqi,hq2⟩,hM.below⟩))
 have HPP:=hide hP;clear hP;go_wp2_with(first|(refine qe ?_;clear hM;intro g W hM))
 all_goals(refine' qU hM rfl rfl Tryz.isAgg69 Tryz.sizeOf69 rfl rfl ?_ ?_ ?_;rotate_left 2;(·repeat constructor);(·rfl);(·exact Or.inr ⟨gp,capp,csp,fa,rfl,hcapp,⟨HKK.out,HWA.out,HPP.out⟩,uK hM (List.Sublist.cons_cons _ (List.nil_sublist _))⟩))
end Go.Proofs.YtiegohjobhehcaaGreatDoor
