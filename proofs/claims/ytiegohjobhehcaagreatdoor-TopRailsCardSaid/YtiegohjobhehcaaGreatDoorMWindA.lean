/-
  The standard atmosphere and the airspeeds: each answers with some number.
-/
import Derived.Test.YtiegohjobhehcaaGreatDoorMPrRow
set_option maxRecDepth 100000
set_option maxHeartbeats 16000000
namespace Go.Proofs.YtiegohjobhehcaaGreatDoor
open Go.RowKit
set_option linter.unusedVariables false
set_option linter.unusedSimpArgs false
theorem zMWindA0{P:Prop}(h:P:=by exact⟨(_,_,_),rfl,⟨by first|exact zg|assumption|exact zi _|exact ze _|exact⟨qG,qG⟩,by first|exact zg|assumption|exact zi _|exact ze _|exact⟨qG,qG⟩,by first|exact zg|assumption|exact zi _|exact ze _|exact⟨qG,qG⟩⟩,hM.below⟩):P:=h
theorem mF:yw Tryz.prog 301 2 16:=by unfold yw;kernel_rfl
theorem aF(w:World):Calls Tryz.prog 213 #[] w (FB (fun g:Nat=> .slice (some ⟨g,0,none⟩) 14 14) (fun g w'=>Hid (∃f,zY w' (some ⟨g,0,none⟩) 14 f)) w):=by
 have hM:=qo w;go_enter Tryz.func213,Tryz.ntmps213;go_wp2_with(first|((with_reducible refine uJ ?_);refine lc [[Iv (-2000),Iv 971400],[Iv 0,Iv 1000000],[Iv 5000,Iv 1077300],[Iv 10000,Iv 1163700],[Iv 15000,Iv 1260600],[Iv 20000,Iv 1370000],[Iv 25000,Iv 1493800],[Iv 30000,Iv 1634900],[Iv 35000,Iv 1796400],[Iv 40000,Iv 2015500],[Iv 45000,Iv 2272700],[Iv 50000,Iv 2562800],[Iv 55000,Iv 2890100],[Iv 60000,Iv 3259100]] hM rfl rfl Tryz.underlying285 mF ?_;clear hM;intro g W hM));go_ret;exact⟨_,rfl,hide (Ub hM (iZ (by rfl)) .head),hM.below⟩
theorem PI(w:World):Calls Tryz.prog 228 #[] w (FB (fun g:Nat=> .slice (some ⟨g,0,none⟩) 4 4) (fun g w'=>Hid (∃f,zY w' (some ⟨g,0,none⟩) 4 f)) w):=by
 have hM:=qo w;go_enter Tryz.func228,Tryz.ntmps228;go_wp2_with(first|((with_reducible refine uJ ?_);refine lc [[Iv (-2000),Iv 29211],[Iv 0,Iv 28815],[Iv 36089,Iv 21665],[Iv 60000,Iv 21665]] hM rfl rfl Tryz.underlying285 mF ?_;clear hM;intro g W hM));go_ret;exact⟨_,rfl,hide (Ub hM (iZ (by rfl)) .head),hM.below⟩
theorem Cu(S:Option Addr)(n c:Nat)(f:Nat→Int×Int)(x:Int)(w:World)(hn1:2≤n)(hn:n≤1000)(hx:qz x)(h:Hid (zY w S n f)):
 Calls Tryz.prog 212 #[.slice S n c,Iv x] w (kY (fun _=>True) w):=by
 have hM:=qo w;have wn:=IntWalk.i64_in ((n:Int)-1) qg;obtain⟨b,o,rfl,_⟩:=h.out 0 qg;go_enter Tryz.func212,Tryz.ntmps212;go_wp2_with fail;go_loopw [5] (fun s wx=>∃k:Nat,1≤k∧k<n∧s=Iv k∧qF w wx []) (fun s _=>n-(intOf s).toNat)
 case atStart=>exact⟨1,by omega,by omega,rfl,hM⟩
 case round=>
  clear hM;obtain⟨k,hk1,hk,rfl,hM⟩:=hrel;obtain⟨j,hj⟩:∃j,k=j+1:=⟨k-1,qg⟩;have iw:IntKind.i64.wrap ((k:Int)-1)=(j:Int):=by rw[show(k:Int)-1=j by omega];exact IntWalk.i64_in _ qg
  have hjn:j<n:=qg;obtain⟨hb,ib,ib2⟩:=ve h.out hk;obtain⟨ha,ia,ia2⟩:=ve h.out hjn;have HB:=hide hb;have HA:=hide ha;have HJ:=hide hj;clear ha hb hj;go_upto_region 4 with(first|((with_reducible refine lX ?_);refine zD hM rfl (by first|exact rfl|(go_simp;done)) rfl (ur rfl) (HB.out 0 _ rfl) ?_))
  all_goals first
   |(go_roundw
     case rel=>exact⟨k+1,by omega,by omega,by go_num,hM⟩
     case measure=>simp[intOf];omega)
   |skip
  all_goals
   refine qj ?_;go_cut [6,7] (fun s6 s7 wx=>∃g6 g7:Nat,s6= .pointer (some ⟨g6,0,none⟩)∧s7= .pointer (some ⟨g7,0,none⟩)∧qF w wx [(g7,[Iv (f k).1,Iv (f k).2],301),(g6,[Iv (f j).1,Iv (f j).2],301)])
   case first=>
    refine qA [] hM qM ?_;(clear hM;intro W hM);refine rD 0 ?_;refine rD 1 ?_;refine rD 2 ?_;refine dP 3 (v:= .pointer (some ⟨b,o+j*2,none⟩)) hM ?_ (hv:=by(intro W0;go_simp;first|done|omega|(intro h;exact absurd h qg)));refine qj ?_;refine Qp 4 hM (HA.out) ?_;refine qj ?_;refine rD 5 ?_;refine rD 6 ?_;refine dP 7 (v:= .pointer (some ⟨b,o+k*2,none⟩)) hM ?_ (hv:=by(intro W0;go_simp;first|done|omega|(intro h;exact absurd h qg)));refine qj ?_;refine Qp 8 hM (HB.out) ?_;refine qj ?_;refine dT 9 10 (fun K' hK'=> ?_) (fun K' hK'=> ?_)
    ·
     refine oN hM ?_;clear hM;intro g6 W hM;refine rK hK' hM ?_;clear hK' K';refine dC 10 (fun K' hK'=> ?_);refine oN hM ?_;clear hM;intro g7 W hM;refine rK hK' hM ?_;clear hK' K';refine dC 11 (fun K' hK'=> ?_);refine oS hM ?_;clear hM;intro W hM;refine rK hK' hM ?_;clear hK' K';refine dC 12 (fun K' hK'=> ?_);refine oS hM ?_;clear hM;intro W hM;refine rK hK' hM ?_;clear hK' K';refine qp qM ?_;go_wp2_with fail
     all_goals
      go_meet
      first|exact⟨_,_,rfl,rfl,hM⟩|exact⟨_,_,rfl,rfl,qW hM (List.Perm.swap _ _ _)⟩
    ·
     refine oN hM ?_;clear hM;intro g7 W hM;refine rK hK' hM ?_;clear hK' K';refine dC 9 (fun K' hK'=> ?_);refine oN hM ?_;clear hM;intro g6 W hM;refine rK hK' hM ?_;clear hK' K';refine dC 11 (fun K' hK'=> ?_);refine oS hM ?_;clear hM;intro W hM;refine rK hK' hM ?_;clear hK' K';refine dC 12 (fun K' hK'=> ?_);refine oS hM ?_;clear hM;intro W hM;refine rK hK' hM ?_;clear hK' K';refine qp qM ?_;go_wp2_with fail
     all_goals
      go_meet
      first|exact⟨_,_,rfl,rfl,hM⟩|exact⟨_,_,rfl,rfl,qW hM (List.Perm.swap _ _ _)⟩
   case rest=>
   clear hM;obtain⟨g6,g7,rfl,rfl,hM⟩:=hcut;go_wp2_with(first|(refine qe ?_;clear hM;intro g W hM)|(go_at_call 188;(with_reducible refine cx hM (tQ _ _ _ (by first|assumption|exact zi _|exact ze _) (by first|assumption|exact zi _|exact ze _)) ?_);clear hM;rintro⟨q1,q2⟩ W1 ⟨hq,-⟩ hM;dsimp only at hq⊢))
   all_goals(go_ret;exact⟨_,rfl,⟨(by first|assumption|exact zi _|exact ze _),trivial⟩,hM.below⟩)
theorem az(S:Option Addr)(n c:Nat)(x:Int)(w:World)(hn1:2≤n)(hn:n≤1000)(hx:qz x)(h:Hid (∃f,zY w S n f)):Calls Tryz.prog 212 #[.slice S n c,Iv x] w (kY (fun _=>True) w):=by
 obtain⟨f,h⟩:=h.out;exact Cu S n c f x w hn1 hn hx (hide h)
theorem cP(x:Int)(w:World):Calls Tryz.prog 227 #[Iv x] w (JK w):=by
 by_cases h1:x< -200000<;>by_cases h2:6000000<x
 all_goals
  go_enter Tryz.func227,Tryz.ntmps227;go_wp2
  all_goals
   go_ret;exact⟨_,rfl,trivial,Below.refl _ _⟩
theorem BN(x d:Int)(w:World):Calls Tryz.prog 211 #[Iv x,Iv d] w (kY (fun _=>True) w):=by
 have hM:=qo w;go_enter Tryz.func211,Tryz.ntmps211;go_wp2_with(first|(refine qe ?_;clear hM;intro g W hM)|(go_at_call 227;(with_reducible refine uD hM (cP _ _) ?_ ?_)<;>(clear hM;intro W1 hb hM)))
 all_goals
  go_ret;exact⟨_,rfl,⟨by first|assumption|exact⟨qG,qG⟩|exact zi _|exact ze _,trivial⟩,hM.below⟩
theorem Cr(x d:Int)(w:World)(hx:qz x):Calls Tryz.prog 214 #[Iv x,Iv d] w (tR (fun _ _=>True) w):=by
 have hM:=qo w;go_enter Tryz.func214,Tryz.ntmps214;go_wp2_with(first|(refine qe ?_;clear hM;intro g W hM)|(go_at_call 211;(with_reducible refine cx hM (BN _ _ _) ?_);clear hM;rintro q W1 ⟨hq,-⟩ hM)|(go_at_call 228;(with_reducible refine cw hM (PI _) ?_);clear hM;intro gT W1 HT hM)|(go_at_call 212;(with_reducible refine cx hM (az _ _ _ _ _ qG qG hx HT) ?_);clear hM;rintro r W1 ⟨hr,-⟩ hM))
 all_goals
  go_ret2;exact⟨(_,_),rfl,⟨by first|exact zg|assumption|exact zi _|exact ze _,trivial⟩,hM.below⟩
theorem PG(x d:Int)(w:World)(hx:qz x):Calls Tryz.prog 189 #[Iv x,Iv d] w (tR (fun _ _=>True) w):=by
 have hM:=qo w;go_enter Tryz.func189,Tryz.ntmps189;go_wp2_with(first|(refine qe ?_;clear hM;intro g W hM)|(go_at_call 211;(with_reducible refine cx hM (BN _ _ _) ?_);clear hM;rintro q W1 ⟨hq,-⟩ hM)|(go_at_call 213;(with_reducible refine cw hM (aF _) ?_);clear hM;intro gT W1 HT hM)|(go_at_call 212;(with_reducible refine cx hM (az _ _ _ _ _ qG qG hx HT) ?_);clear hM;rintro r W1 ⟨hr,-⟩ hM))
 all_goals
  go_ret2;exact⟨(_,_),rfl,⟨by first|exact zg|assumption|exact zi _|exact ze _,trivial⟩,hM.below⟩
theorem PH(x d:Int)(w:World)(hx:qz x):Calls Tryz.prog 190 #[Iv x,Iv d] w (tR (fun _ _=>True) w):=by
 have hM:=qo w;go_enter Tryz.func190,Tryz.ntmps190;go_wp2_with(first|(refine qe ?_;clear hM;intro g W hM)|(go_at_call 214;(with_reducible refine cx hM (Cr _ _ _ hx) ?_);clear hM;rintro⟨q1,q2⟩ W1 ⟨hq,-⟩ hM;dsimp only at hq⊢)|(go_at_call 90;(with_reducible refine cx hM (pJ _ _ (by first|assumption|exact zi _|exact ze _)) ?_);clear hM;rintro r W1 ⟨-,hr0,hr1⟩ hM;have hr:=AZ hr0 hr1;clear hr0 hr1))
 all_goals
  go_ret2;exact⟨(_,_),rfl,⟨by first|exact zg|assumption|exact zi _|exact ze _,trivial⟩,hM.below⟩
theorem Yh(n hi:Int)(w:World):Calls Tryz.prog 132 #[Iv n,Iv hi] w (bR (fun b:Bool=> .bool b) (fun b=>Hid (b=true↔(0≤n∧n≤hi))) w):=by
 by_cases h1:0≤n<;>by_cases h2:n≤hi
 all_goals
  go_enter Tryz.func132,Tryz.ntmps132;go_wp2
  all_goals
   go_ret;exact⟨_,rfl,hide (by simp<;>omega),Below.refl _ _⟩
theorem DL(x y d:Int)(w:World)(hy:qz y):Calls Tryz.prog 133 #[Iv x,Iv y,Iv d] w (tR (fun _ _=>True) w):=by
 have hM:=qo w;go_enter Tryz.func133,Tryz.ntmps133;go_wp2_with(first|(refine qe ?_;clear hM;intro g W hM)|(go_at_call 132;(with_reducible refine uD hM (Yh _ _ _) ?_ ?_)<;>(clear hM;intro W1 hb hM))|(go_at_call 189;(with_reducible refine cx hM (PG _ _ _ hy) ?_);clear hM;rintro⟨q1,q2⟩ W1 ⟨hq,-⟩ hM;dsimp only at hq⊢))
 all_goals
  go_ret2;exact⟨(_,_),rfl,⟨by first|exact zg|assumption|exact zi _|exact ze _,trivial⟩,hM.below⟩
theorem ER{n:Int}(h: -9223372036854775808≤n∧n≤9223372036854775807):qz n:=h
theorem Ct{c1 c2 a b:Int}(h:(c1,c2)=qL 1 a 1 b):qz c1:=by
 have:=congrArg Prod.fst h;dsimp only at this;rw[this];exact Jb _ _ _ _
theorem aA(x y d:Int)(w:World)(hy:qz y):Calls Tryz.prog 134 #[Iv x,Iv y,Iv d] w (tR (fun _ _=>True) w):=by
 have hM:=qo w;go_enter Tryz.func134,Tryz.ntmps134;go_wp2_with(first|(refine qe ?_;clear hM;intro g W hM)|(go_at_call 132;(with_reducible refine uD hM (Yh _ _ _) ?_ ?_)<;>(clear hM;intro W1 hb hM))|(go_at_call 190;(with_reducible refine cx hM (PH _ _ _ hy) ?_);clear hM;rintro⟨q1,q2⟩ W1 ⟨hq,-⟩ hM;dsimp only at hq⊢)|(go_at_call 159;(with_reducible refine cx hM (lY _ _ _ (by first|assumption|exact zi _|exact ze _) (ER qG)) ?_);clear hM;rintro⟨c1,c2⟩ W1 hq2 hM;have hc:qz c1:=Ct hq2;clear hq2;(try dsimp only)))
 all_goals
  go_ret2;exact⟨(_,_),rfl,⟨by first|exact zg|assumption|exact zi _|exact ze _,trivial⟩,hM.below⟩
theorem Vs(x m y d:Int)(w:World)(hy:qz y):Calls Tryz.prog 59 #[Iv x,Iv m,Iv y,Iv d] w (tR (fun _ _=>True) w):=by
 have hM:=qo w;go_enter Tryz.func59,Tryz.ntmps59;go_wp2_with(first|(refine qe ?_;clear hM;intro g W hM)|(go_at_call 132;(with_reducible refine uD hM (Yh _ _ _) ?_ ?_)<;>(clear hM;intro W1 hb hM))|(go_at_call 133;(with_reducible refine cx hM (DL _ _ _ _ hy) ?_);clear hM;rintro⟨q1,q2⟩ W1 ⟨hq,-⟩ hM;dsimp only at hq⊢)|(go_at_call 134;(with_reducible refine cx hM (aA _ _ _ _ hy) ?_);clear hM;rintro⟨q1,q2⟩ W1 ⟨hq,-⟩ hM;dsimp only at hq⊢))
 all_goals
  go_ret2;exact⟨(_,_),rfl,⟨by first|exact zg|assumption|exact zi _|exact ze _|exact vu qY qY,trivial⟩,hM.below⟩
theorem wE(n hi:Int)(w:World):Calls Tryz.prog 187 #[Iv n,Iv hi] w (bR (fun b:Bool=> .bool b) (fun b=>Hid (b=true↔(0≤n∧n≤hi))) w):=by
 by_cases h1:0≤n<;>by_cases h2:n≤hi
 all_goals
  go_enter Tryz.func187,Tryz.ntmps187;go_wp2
  all_goals
   go_ret;exact⟨_,rfl,hide (by simp<;>omega),Below.refl _ _⟩
theorem Ym(x0 x1 x2 x3:Int)(w:World):Calls Tryz.prog 117 #[.agg #[Iv x0,Iv x1,Iv x2,Iv x3]] w (kY (fun _=>True) w):=by
 have hM:=qo w;go_enter Tryz.func117,Tryz.ntmps117;go_wp2_with(first|(refine qe ?_;clear hM;intro g W hM)|(go_at_call 187;(with_reducible refine uD hM (wE _ _ _) ?_ ?_)<;>(clear hM;intro W1 hb hM)))
 all_goals
  go_ret;exact⟨_,rfl,⟨by first|exact zg|assumption|exact zi _|exact ze _|exact⟨qG,qG⟩,trivial⟩,hM.below⟩
theorem Gc(x0 x1 x2 x3:Int)(w:World):Calls Tryz.prog 57 #[.agg #[Iv x0,Iv x1,Iv x2,Iv x3]] w (kY (fun _=>True) w):=by
 have hM:=qo w;go_enter Tryz.func57,Tryz.ntmps57;go_wp2_with(first|(refine qe ?_;clear hM;intro g W hM)|(go_at_call 117;(with_reducible refine cx hM (Ym _ _ _ _ _) ?_);clear hM;rintro q W1 ⟨hq,-⟩ hM))
 all_goals
  go_ret;exact⟨_,rfl,⟨by first|exact zg|assumption|exact zi _|exact ze _|exact⟨qG,qG⟩,trivial⟩,hM.below⟩
theorem VD(x0 x1 x2 x3:Int)(w:World):Calls Tryz.prog 102 #[.agg #[Iv x0,Iv x1,Iv x2,Iv x3]] w (kY (fun _=>True) w):=by
 have hM:=qo w;go_enter Tryz.func102,Tryz.ntmps102;go_upto_region 0 with fail;refine qj ?_;go_cut [1] (fun s1 wx=>∃g1:Nat,s1= .pointer (some ⟨g1,0,none⟩)∧qF w wx [(g1,[Iv x0,Iv x1,Iv x2,Iv x3],40)])
 case first=>
  go_wp2_with(first|(refine qe ?_;clear hM;intro g W hM))
  all_goals
   go_meet;exact⟨_,rfl,hM⟩
 case rest=>
 clear hM;obtain⟨g1,rfl,hM⟩:=hcut;go_upto_region 3 with(first|refine zC ?_|(go_at_call 117;(with_reducible refine cx hM (Ym _ _ _ _ _) ?_);clear hM;rintro q W1 ⟨hq,-⟩ hM))
 all_goals first
  |(go_ret;exact⟨_,rfl,⟨by first|exact zg|assumption|exact zi _|exact ze _|exact⟨qG,qG⟩,trivial⟩,hM.below⟩)
  |skip
 refine qj ?_;refine qA [(g1,[Iv x0,Iv x1,Iv x2,Iv x3],40)] hM qM ?_;(clear hM;intro W hM);refine rD 0 ?_;refine rD 1 ?_;refine rD 2 ?_;refine dC 3 (fun K' hK'=> ?_);go_wp2_with(first|(go_at_call 57;(with_reducible refine cx hM (Gc _ _ _ _ _) ?_);clear hM;rintro q W1 ⟨hq,-⟩ hM));refine rK hK' hM ?_;clear hK' K';refine rD 4 ?_;refine rD 5 ?_;refine qp qM ?_;go_wp2_with fail
 all_goals(go_ret;exact⟨_,rfl,⟨by first|exact zg|assumption|exact zi _|exact ze _|exact⟨qG,qG⟩,trivial⟩,hM.below⟩)
theorem iA(a b c d e f:Int)(w:World):Calls Tryz.prog 142 #[.agg #[Iv a,Iv b],.agg #[Iv c,Iv d],.agg #[Iv e,Iv f]] w (bR (fun r:Int×Int×Int=> .tuple #[.agg #[Iv r.1,Iv r.2.1],Iv r.2.2]) (fun r=>qz r.1∧qz r.2.1∧qz r.2.2) w):=by
 have hM:=qo w;go_enter Tryz.func142,Tryz.ntmps142;go_wp2_with(first|(refine qe ?_;clear hM;intro g W hM))
 all_goals(refine' qU hM rfl rfl Tryz.isAgg72 Tryz.sizeOf72 rfl rfl ?_ ?_ ?_;rotate_left 2;(·repeat constructor);(·rfl);(·exact zMWindA0))
theorem cL(n:Int)(w:World):Calls Tryz.prog 229 #[Iv n] w (bR (fun b:Bool=> .bool b) (fun b=>Hid (b=true↔(-400≤n∧n≤400))) w):=by
 by_cases h1: -400≤n<;>by_cases h2:n≤400
 all_goals
  go_enter Tryz.func229,Tryz.ntmps229;go_wp2
  all_goals
   go_ret;exact⟨_,rfl,hide (by simp<;>omega),Below.refl _ _⟩
theorem cM(n:Int)(w:World):Calls Tryz.prog 216 #[Iv n] w (bR (fun b:Bool=> .bool b) (fun b=>Hid (b=true↔(1≤n∧n≤4000))) w):=by
 by_cases h1:1≤n<;>by_cases h2:n≤4000
 all_goals
  go_enter Tryz.func216,Tryz.ntmps216;go_wp2
  all_goals
   go_ret;exact⟨_,rfl,hide (by simp<;>omega),Below.refl _ _⟩
theorem Qv{p:Prop}(h:true=true↔p):p:=h.1 rfl
theorem ZM{p:Prop}(h:false=true↔p):¬p:=fun hp=>by have:=h.2 hp;cases this
theorem Pz(e n:Int)(w:World):Calls Tryz.prog 218 #[.agg #[Iv e,Iv n]] w (bR (fun b:Bool=> .bool b) (fun b=>Hid (b=true→(-400≤e∧e≤400)∧ -400≤n∧n≤400)) w):=by
 have hM:=qo w;go_enter Tryz.func218,Tryz.ntmps218;go_wp2_with(first|(refine qe ?_;clear hM;intro g W hM)|(go_at_call 229;(with_reducible refine uD hM (cL _ _) ?_ ?_)<;>(clear hM;intro W1 hb hM;first|(have hs:=Qv hb.out;clear hb)|(have hs:=ZM hb.out;clear hb))))
 all_goals
  go_ret
 all_goals first
  |exact⟨_,rfl,hide (fun _=>by omega),hM.below⟩
  |exact⟨_,rfl,hide (fun h=>Bool.noConfusion h),hM.below⟩
theorem ag(e n:Int)(w:World):Calls Tryz.prog 217 #[.agg #[Iv e,Iv n]] w (bR (fun b:Bool=> .bool b) (fun b=>True) w):=by
 have hM:=qo w;go_enter Tryz.func217,Tryz.ntmps217;go_wp2_with(first|(refine qe ?_;clear hM;intro g W hM)|(go_at_call 229;(with_reducible refine uD hM (cL _ _) ?_ ?_)<;>(clear hM;intro W1 hb hM)))
 all_goals
  go_ret;exact⟨_,rfl,trivial,hM.below⟩
theorem Sc(a b c d:Int)(w:World):Calls Tryz.prog 193 #[.agg #[Iv a,Iv b,Iv c,Iv d]] w (bR (fun b:Bool=> .bool b) (fun b=>True) w):=by
 have hM:=qo w;go_enter Tryz.func193,Tryz.ntmps193;go_wp2_with(first|(refine qe ?_;clear hM;intro g W hM)|(go_at_call 217;(with_reducible refine uD hM (ag _ _ _) ?_ ?_)<;>(clear hM;intro W1 hb hM)))
 all_goals
  go_ret;exact⟨_,rfl,trivial,hM.below⟩
theorem cN(n:Int)(w:World)(h1: -1000000000000≤n)(h2:n≤1000000000000):Calls Tryz.prog 219 #[Iv n] w (bR (fun r:Int=>Iv r) (fun r=> -1000000≤r∧r≤1000000) w):=by
 have hM:=qo w;have w1:=IntWalk.i64_in (n+524288) qg;go_enter Tryz.func219,Tryz.ntmps219;go_wp2_with fail
 all_goals
  go_ret;exact⟨_,rfl,by omega,hM.below⟩
theorem BM{e s:Int}(h1: -400≤e∧e≤400)(h2: -1073741824≤s∧s≤1073741824): -429496729600≤e*s∧e*s≤429496729600:=by
 have a1:0≤(400-e)*(1073741824-s):=Int.mul_nonneg qg qg;have a2:0≤(400+e)*(1073741824+s):=Int.mul_nonneg qg qg;have a3:0≤(400-e)*(1073741824+s):=Int.mul_nonneg qg qg;have a4:0≤(400+e)*(1073741824-s):=Int.mul_nonneg qg qg;simp only[Int.sub_mul,Int.mul_sub,Int.add_mul,Int.mul_add]at a1 a2 a3 a4;omega
theorem cO(c e n:Int)(w:World)(hc:qz c):Calls Tryz.prog 194 #[Iv c,.agg #[Iv e,Iv n]] w (bR (fun r:Int×Int×Int=> .tuple #[Iv r.1,Iv r.2.1,Iv r.2.2]) (fun r=>(-1000000≤r.1∧r.1≤1000000)∧(-1000000≤r.2.1∧r.2.1≤1000000)∧(r.2.2=0∨r.2.2=1)) w):=by
 have hM:=qo w;go_enter Tryz.func194,Tryz.ntmps194;go_upto_region 1 with(first|(refine qe ?_;clear hM;intro g W hM));obtain⟨gp,rfl⟩:=uC hM;go_upto_region 4 with(first|refine zC ?_|(go_at_call 218;(with_reducible refine uD hM (Pz _ _ _) ?_ ?_)<;>(clear hM;intro W1 hb hM;first|(have hs:=hb.out (by trivial);clear hb)|clear hb))|(go_at_call 36;(with_reducible refine(Qg _ (by first|assumption|exact zi _|exact ze _) _).mono ?_);rintro e9 W1 ⟨rfl,rfl⟩)|(go_at_call 37;(with_reducible refine(Zs _ (by first|assumption|exact zi _|exact ze _) _).mono ?_);rintro e9 W1 ⟨rfl,rfl⟩))
 all_goals first
  |(go_ret3;exact⟨(0,0,1),rfl,⟨qG,qG,qG⟩,hM.below⟩)
  |skip
 all_goals
  have b1:=BM hs.1 (Qc c);have b2:=BM hs.1 (Ja c);have b3:=BM hs.2 (Qc c);have b4:=BM hs.2 (Ja c);generalize yJ c=sn at*;generalize vT c=cs at*;have w1:=IntWalk.i64_in (e*sn) qg;have w2:=IntWalk.i64_in (n*cs) qg;have w3:=IntWalk.i64_in (e*sn+n*cs) qg;have w4:=IntWalk.i64_in (e*cs) qg;have w5:=IntWalk.i64_in (n*sn) qg;have w6:=IntWalk.i64_in (e*cs-n*sn) qg;refine qj ?_;go_cut [4,5,6] (fun s4 s5 s6 wx=>∃x y:Int,s4=Iv x∧s5=Iv y∧s6=Iv 0∧((-1000000≤x∧x≤1000000)∧(-1000000≤y∧y≤1000000))∧qF w wx [(gp,[Iv e,Iv n],145)])
  case first=>
   refine qA [(gp,[Iv e,Iv n],145)] hM qM ?_;(clear hM;intro W hM);refine rD 0 ?_;refine rD 1 ?_;refine rD 2 ?_;refine rD 3 ?_;refine rD 4 ?_;refine rD 5 ?_;refine rD 6 ?_;refine rD 7 ?_;refine rD 8 ?_;refine rD 10 ?_;refine rD 11 ?_;refine rD 12 ?_;refine rD 13 ?_;refine rD 14 ?_;refine rD 15 ?_;refine rD 16 ?_;refine rD 17 ?_;refine rD 18 ?_;refine dC 9 (fun K' hK'=> ?_);go_wp2_with(first|(go_at_call 219;(with_reducible refine cx hM (cN _ _ qg qg) ?_);clear hM;intro r W1 hr hM));refine rK hK' hM ?_;clear hK' K';refine dC 19 (fun K' hK'=> ?_);go_wp2_with(first|(go_at_call 219;(with_reducible refine cx hM (cN _ _ qg qg) ?_);clear hM;intro r W1 hr hM));refine rK hK' hM ?_;clear hK' K';refine rD 20 ?_;refine rD 21 ?_;refine rD 22 ?_;refine qp qM ?_;go_wp2_with fail
   all_goals
    go_meet;exact⟨_,_,rfl,rfl,rfl,⟨qY,qY⟩,hM⟩
  case rest=>
  clear hM;obtain⟨x,y,rfl,rfl,rfl,hxy,hM⟩:=hcut;go_wp2_with fail
  all_goals(go_ret3;exact⟨(x,y,0),rfl,⟨hxy.1,hxy.2,.inl rfl⟩,hM.below⟩)
theorem Sf(y x:Int):qz (yQ y x):=by have:=gI y x;exact⟨qg,qg⟩
theorem Sg(y x:Int):qz (zN y x):=by unfold qz zN norm;omega
theorem Sh{t y:Int}(ht:1024≤t∧t≤4096000)(h1:y<t)(h2: -y<t):(0≤t*t∧t*t≤16777216000000)∧(0≤y*y∧y*y≤16777216000000)∧1≤t*t-y*y:=by
 have a1:0≤(t-y-1)*(t+y-1):=Int.mul_nonneg qg qg;have a2:0≤(4096000-t)*(4096000+t):=Int.mul_nonneg qg qg;have a3:0≤(4096000-y)*(4096000+y):=Int.mul_nonneg qg qg;have a4:0≤t*t:=Int.mul_nonneg qg qg
 have a5:0≤y*y:=by
  rcases Int.le_total 0 y with h|h
  ·exact Int.mul_nonneg h h
  ·have:=Int.mul_nonneg (show 0≤ -y by omega) (show 0≤ -y by omega)
   rwa[Int.neg_mul_neg]at this
 have e:t*y=y*t:=Int.mul_comm _ _;simp only[Int.sub_mul,Int.mul_sub,Int.add_mul,Int.mul_add]at a1 a2 a3;omega
theorem Sm{n r:Int}(hr:r=(kE n.toNat:Int))(h1:1≤n)(h2:n≤16777216000000):1≤r∧r≤4194304:=by
 have a:=Bi (n:=n.toNat) (r:=4194304) qg;have b:kE n.toNat≠0:=fun h=>by have:=(JB _).1 h;omega
 omega
theorem PD(c s e n:Int)(w:World)(hc:qz c):Calls Tryz.prog 192 #[Iv c,Iv s,.agg #[Iv e,Iv n]] w (bR (fun r:Int×Int×Int=> .tuple #[Iv r.1,Iv r.2.1,Iv r.2.2]) (fun r=>qz r.1∧qz r.2.1∧qz r.2.2∧(r.2.2=0→1024≤r.1)) w):=by
 have hM:=qo w;go_enter Tryz.func192,Tryz.ntmps192;go_upto_region 1 with(first|(refine qe ?_;clear hM;intro g W hM));obtain⟨gp,rfl⟩:=uC hM;go_upto_region 2 with(first|refine zC ?_|(go_at_call 194;(with_reducible refine cx hM (cO _ _ _ _ hc) ?_);clear hM;rintro⟨x,y,z⟩ W1 ⟨⟨hx1,hx2⟩,⟨hy1,hy2⟩,hz⟩ hM;dsimp only at hx1 hx2 hy1 hy2 hz⊢;have HZ:=hide hz;clear hz));by_cases hz:z=0;rotate_left
 ·have hz1:(z !=0)=true:=by simpa using hz
  go_wp2_with(first|refine zC ?_|(go_at_call 216;(with_reducible refine uD hM (cM _ _) ?_ ?_)<;>(clear hM;intro W1 hb hM;first|(have hs:=Qv hb.out;clear hb)|clear hb)))
  all_goals(go_ret3;exact⟨(0,0,1),rfl,⟨zg,zg,⟨qG,qG⟩,fun h=>by cases h⟩,hM.below⟩)
 subst hz;go_upto_region 4 with(first|refine zC ?_|(go_at_call 216;(with_reducible refine uD hM (cM _ _) ?_ ?_)<;>(clear hM;intro W1 hb hM;first|(have hs:=Qv hb.out;clear hb)|clear hb)))
 all_goals first
  |(go_ret3;exact⟨(0,0,1),rfl,⟨zg,zg,⟨qG,qG⟩,fun h=>by cases h⟩,hM.below⟩)
  |skip
 obtain⟨t,ht⟩:∃t,s*1024=t:=⟨_,rfl⟩;have htb:1024≤t∧t≤4096000:=qg;have w1:IntKind.i64.wrap (s*1024)=t:=by rw[ht];exact IntWalk.i64_in _ qg
 have w2:=IntWalk.i64_in (-y) qg;clear ht;by_cases hyt:y<t∧ -y<t;rotate_left
 ·by_cases h3:t≤y
  ·go_wp2_with(first|refine zC ?_)
   all_goals(go_ret3;exact⟨(0,0,10),rfl,⟨zg,zg,⟨qG,qG⟩,fun h=>by cases h⟩,hM.below⟩)
  ·have h4:t≤ -y:=qg;go_wp2_with(first|refine zC ?_)
   all_goals(go_ret3;exact⟨(0,0,10),rfl,⟨zg,zg,⟨qG,qG⟩,fun h=>by cases h⟩,hM.below⟩)
 obtain⟨q1,q2,q3⟩:=Sh htb hyt.1 hyt.2;have h3:¬t≤y:=qg;have h4:¬t≤ -y:=qg;generalize hA:t*t=A at*;generalize hB:y*y=B at*;have w3:IntKind.i64.wrap A=A:=IntWalk.i64_in _ qg;have w4:IntKind.i64.wrap B=B:=IntWalk.i64_in _ qg;have w5:=IntWalk.i64_in (A-B) qg;have hi:qz (A-B):=⟨qg,qg⟩;go_upto_region 8 with(first|refine zC ?_|(go_at_call 90;(with_reducible refine cx hM (pJ _ _ (by first|assumption|exact zi _|exact ze _)) ?_);clear hM;rintro r W1 ⟨hr,hr0,hr1⟩ hM;replace hr:=hide hr));have hr2:=Sm hr.out qg qg;have w6:=IntWalk.i64_in (x+r) qg;clear hr;go_wp2_with(first|refine zC ?_|(go_at_call 28;(with_reducible refine cb hM (Yz _ _ qg qg qg qg qg _) ?_);clear hM;intro W1 hM)|(go_at_call 98;(with_reducible refine(JN _ _ zg (Sf _ _) _).mono ?_);rintro e9 W1 ⟨rfl,rfl⟩))
 all_goals first
  |(go_ret3;exact⟨(0,0,10),rfl,⟨zg,zg,⟨qG,qG⟩,fun h=>by cases h⟩,hM.below⟩)
  |(go_ret3;exact⟨(x+r,_,0),rfl,⟨⟨by dsimp only;omega,by dsimp only;omega⟩,Sg _ _,zg,fun _=>by dsimp only;omega⟩,hM.below⟩)
theorem LN(a b:Int)(w:World):(Instr.index 267 (.agg #[Iv a,Iv b]) (Iv 0)).run Tryz.prog w= .ok (Iv a) w:=qM
theorem LO(a b:Int)(w:World):(Instr.index 267 (.agg #[Iv a,Iv b]) (Iv 1)).run Tryz.prog w= .ok (Iv b) w:=qM
set_option maxRecDepth 100000 in
set_option maxHeartbeats 8000000 in
theorem mE(c t0 t1 e0 e1 n0 n1:Int)(w:World)(hc:qz c)(h0:qz e0)(h1:qz e1)(h2:qz n0)(h3:qz n1):Calls Tryz.prog 139 #[Iv c,.agg #[Iv t0,Iv t1],.agg #[Iv e0,Iv e1,Iv n0,Iv n1]] w (bR (fun r:Int×Int×Int=> .tuple #[.agg #[Iv r.1,Iv r.2.1],Iv r.2.2]) (fun r=>qz r.1∧qz r.2.1∧qz r.2.2) w):=by
 have hM:=qo w;go_enter Tryz.func139,Tryz.ntmps139;go_upto_region 0 with fail;refine qj ?_;go_cut [4,5,6] (fun s4 s5 s6 wx=>∃gt gb gr:Nat,s4= .pointer (some ⟨gt,0,none⟩)∧s5= .pointer (some ⟨gb,0,none⟩)∧s6= .pointer (some ⟨gr,0,none⟩)∧qF w wx ([(gr,[Iv 0,Iv 0],72),(gb,[Iv e0,Iv e1,Iv n0,Iv n1],217),(gt,[Iv t0,Iv t1],72)]))
 case first=>
  go_wp2_with(first|(refine qe ?_;clear hM;intro g W hM))
  all_goals
   go_meet;exact⟨_,_,_,rfl,rfl,rfl,hM⟩
 case rest=>
 clear hM;obtain⟨gt,gb,gr,rfl,rfl,rfl,hM⟩:=hcut;go_upto_region 3 with(first|(refine qe ?_;clear hM;intro g W hM)|(go_at_call 193;(with_reducible refine uD hM (Sc _ _ _ _ _) ?_ ?_)<;>(clear hM;intro W1 hb hM)))
 all_goals first
  |(refine' qU hM rfl rfl Tryz.isAgg72 Tryz.sizeOf72 rfl rfl ?_ ?_ ?_;rotate_left 2;(·repeat constructor);(·rfl);(·exact zMWindA0))
  |skip
 go_wp2_with(first|(refine qe ?_;clear hM;intro g W hM));go_loopw [8,9,10,11,53] (fun s8 s9 s10 s11 s53 wx=>∃k:Nat,k≤2∧s53=Iv k∧(∃p q r s:Int,s8=Iv p∧s9=Iv q∧s10=Iv r∧s11=Iv s∧(qz p∧qz q∧qz r∧qz s))∧qF w wx [(gr,[Iv 0,Iv 0],72),(gb,[Iv e0,Iv e1,Iv n0,Iv n1],217),(gt,[Iv t0,Iv t1],72)]) (fun _ _ _ _ s _=>2-(intOf s).toNat)
 case atStart=>exact⟨0,by omega,rfl,⟨_,_,_,_,rfl,rfl,rfl,rfl,⟨qG,qG⟩,⟨qG,qG⟩,⟨qG,qG⟩,⟨qG,qG⟩⟩,hM⟩
 case round=>
  clear hM;obtain⟨k,hk,rfl,⟨p,q,r,s,rfl,rfl,rfl,rfl,hp,hq,hr,hs⟩,hM⟩:=hrel;have I0:=LN e0 e1;have I1:=LO e0 e1;have J0:=LN n0 n1;have J1:=LO n0 n1;have hkk:k=0∨k=1∨k=2:=qg;rcases hkk with rfl|rfl|rfl;rotate_left 2
  ·go_upto_region 17 with(first|(refine qe ?_;clear hM;intro g W hM)|(go_at_call 67;(with_reducible refine cx hM (lZ _ _ (by first|assumption|exact zi _|exact ze _)) ?_);clear hM;rintro a W1 ⟨ha,-⟩ hM))
   all_goals
    refine qj ?_;go_cut [21,22] (fun s21 s22 wx=>∃a b:Int,s21=Iv a∧s22=Iv b∧qz a∧qz b∧qF w wx [(gr,[Iv 0,Iv 0],72),(gb,[Iv e0,Iv e1,Iv n0,Iv n1],217),(gt,[Iv t0,Iv t1],72)])
    case first=>
     have q3:=hM.cell (.tail (.tail .head)) 0;have q4:=hM.cell (.tail (.tail .head)) 1;simp only[List.getElem?_cons_succ,List.getElem?_cons_zero]at q3 q4;go_quiet (fail)
     all_goals
      go_wp2_with fail
      all_goals
       go_meet;exact⟨_,_,rfl,rfl,by first|exact zi _|exact ze _|exact⟨qg,qg⟩,by first|exact zi _|exact ze _|exact⟨qg,qg⟩,by first|exact hM|exact qJ hM|exact zA hM _|exact qJ (qJ hM)⟩
    case rest=>
    clear hM;obtain⟨sl,fs,rfl,rfl,hsl,hfs,hM⟩:=hcut;go_wp2_with(first|(refine qe ?_;clear hM;intro g W hM)|(go_at_call 90;(with_reducible refine cx hM (pJ _ _ (by first|assumption|exact zi _|exact ze _)) ?_);clear hM;rintro r W1 ⟨-,hr0,hr1⟩ hM))
    all_goals(refine' qU hM rfl rfl Tryz.isAgg72 Tryz.sizeOf72 rfl rfl ?_ ?_ ?_;rotate_left 2;(·repeat constructor);(·rfl);(·exact zMWindA0))
  all_goals
   go_wp2_with(first|(refine qe ?_;clear hM;intro g W hM));go_loopw [8,9,10,11,63] (fun s8 s9 s10 s11 s63 wx=>∃j:Nat,j≤2∧s63=Iv j∧(∃p q r s:Int,s8=Iv p∧s9=Iv q∧s10=Iv r∧s11=Iv s∧(qz p∧qz q∧qz r∧qz s))∧qF w wx [(gr,[Iv 0,Iv 0],72),(gb,[Iv e0,Iv e1,Iv n0,Iv n1],217),(gt,[Iv t0,Iv t1],72)]) (fun _ _ _ _ s _=>2-(intOf s).toNat)
   case atStart=>exact⟨0,by omega,rfl,⟨p,q,r,s,rfl,rfl,rfl,rfl,hp,hq,hr,hs⟩,hM⟩
   case round=>
    clear hM hp hq hr hs;obtain⟨j,hj,rfl,⟨p,q,r,s,rfl,rfl,rfl,rfl,hp,hq,hr,hs⟩,hM⟩:=hrel;have hjj:j=0∨j=1∨j=2:=qg;rcases hjj with rfl|rfl|rfl
    all_goals
     go_wp2_with(first|(refine qe ?_;clear hM;intro g W hM)|(go_at_call 194;(with_reducible refine cx hM (cO _ _ _ _ hc) ?_);clear hM;rintro⟨x,y,z⟩ W1 ⟨⟨hx1,hx2⟩,⟨hy1,hy2⟩,hz⟩ hM;dsimp only at hx1 hx2 hy1 hy2 hz⊢;clear hz))
     all_goals
      go_roundw
      case rel=>first
       |exact⟨1,by omega,rfl,⟨_,_,_,_,rfl,rfl,rfl,rfl,vu hp ⟨qg,qg⟩,ut hq ⟨qg,qg⟩,vu hr ⟨qg,qg⟩,ut hs ⟨qg,qg⟩⟩,hM⟩
       |exact⟨2,by omega,rfl,⟨_,_,_,_,rfl,rfl,rfl,rfl,vu hp ⟨qg,qg⟩,ut hq ⟨qg,qg⟩,vu hr ⟨qg,qg⟩,ut hs ⟨qg,qg⟩⟩,hM⟩
       |exact⟨1,by omega,rfl,⟨p,q,r,s,rfl,rfl,rfl,rfl,hp,hq,hr,hs⟩,hM⟩
       |exact⟨2,by omega,rfl,⟨p,q,r,s,rfl,rfl,rfl,rfl,hp,hq,hr,hs⟩,hM⟩
      case measure=>simp[intOf]
end Go.Proofs.YtiegohjobhehcaaGreatDoor
