/-
  turn.At for all arguments, by boxes.
-/
import Derived.Test.YtcgpbnlhnafhjaaGreatDoorMLineD
import Derived.Test.YtcgpbnlhnafhjaaGreatDoorMMemD
import Derived.Test.YtcgpbnlhnafhjaaGreatDoorMTurnA
namespace Go.Proofs.YtcgpbnlhnafhjaaGreatDoor
open Go.RowKit
set_option linter.unusedVariables false
set_option linter.unusedSimpArgs false
set_option maxRecDepth 100000 in
set_option maxHeartbeats 8000000 in
theorem gI(cx cy r f s al:Int)(w:World)(R:Int×Int×Int×Int)(hR:R=jp cx cy r f s al):
 Calls Tryz.prog 25 #[.agg #[Iv cx,Iv cy,Iv r,Iv f,Iv s],Iv al] w fun e w'=>e= .returned (.tuple #[.agg #[Iv R.1,Iv R.2.1],Iv R.2.2.1,Iv R.2.2.2])∧Below w.heap.size w w':=by
 have TV:=fun W=>xH cx cy r f s W
 have TL:=fun W=>gJ cx cy r f s W
 have hM:=qE w;rcases hB:ur cx cy r f s with _|_
 ·rw[Ke hB]at hR;rw[hB]at TV;subst hR;clear hB;go_enter Tryz.func25,Tryz.ntmps25;go_upto_region 0 with fail;refine qu ?_;go_cut [2,4] (fun s2 s4 wx=>∃gA gO:Nat,s2= .pointer (some ⟨gA,0,none⟩)∧s4= .pointer (some ⟨gO,0,none⟩)∧qU w wx [(gO,[Iv 0,Iv 0],26),(gA,[Iv cx,Iv cy,Iv r,Iv f,Iv s],51)])
  case first=>
   go_wp2_with(first|(refine DU ?_;clear hM;intro g W hM))
   all_goals
    go_meet;exact⟨_,_,rfl,rfl,hM⟩
  case rest=>
  clear hM;obtain⟨gA,gO,rfl,rfl,hM⟩:=hcut;go_wp2_with(first|(refine DU ?_;clear hM;intro g W hM)|(refine qf (TV _) ?_;clear hM;intro W1 hM))
  all_goals
   refine' vK hM rfl rfl Tryz.isAgg26 Tryz.sizeOf26 rfl rfl rfl ?_ ?_ ⟨?_,hM.below⟩;rotate_left 2;(·repeat constructor);(·rfl);(·rfl)
 rw[hB]at TV;have nb:=uP cx cy r f s;by_cases ho:al<0∨al>qX cx cy r f s
 ·rw[Yd hB ho]at hR;subst hR;have T:al<0∨(¬al<0∧al>qX cx cy r f s):=DL;generalize qX cx cy r f s=n at*;clear ho hB;go_enter Tryz.func25,Tryz.ntmps25;go_upto_region 0 with fail;refine qu ?_;go_cut [2,4] (fun s2 s4 wx=>∃gA gO:Nat,s2= .pointer (some ⟨gA,0,none⟩)∧s4= .pointer (some ⟨gO,0,none⟩)∧qU w wx [(gO,[Iv 0,Iv 0],26),(gA,[Iv cx,Iv cy,Iv r,Iv f,Iv s],51)])
  case first=>
   go_wp2_with(first|(refine DU ?_;clear hM;intro g W hM))
   all_goals
    go_meet;exact⟨_,_,rfl,rfl,hM⟩
  case rest=>
  clear hM;obtain⟨gA,gO,rfl,rfl,hM⟩:=hcut;rcases T with t1|⟨t1,t2⟩
  ·go_wp2_with(first|(refine DU ?_;clear hM;intro g W hM)|(refine qf (TV _) ?_;clear hM;intro W1 hM)|(refine qf (TL _) ?_;clear hM;intro W1 hM))
   all_goals
    refine' vK hM rfl rfl Tryz.isAgg26 Tryz.sizeOf26 rfl rfl rfl ?_ ?_ ⟨?_,hM.below⟩;rotate_left 2;(·repeat constructor);(·rfl);(·rfl)
  ·go_wp2_with(first|(refine DU ?_;clear hM;intro g W hM)|(refine qf (TV _) ?_;clear hM;intro W1 hM)|(refine qf (TL _) ?_;clear hM;intro W1 hM))
   all_goals
    refine' vK hM rfl rfl Tryz.isAgg26 Tryz.sizeOf26 rfl rfl rfl ?_ ?_ ⟨?_,hM.below⟩;rotate_left 2;(·repeat constructor);(·rfl);(·rfl)
 obtain⟨hv,⟨b1,b2⟩,⟨b3,b4⟩,b5,b6⟩:=xc hB;obtain⟨Y0,hY0⟩:∃Y,Y=zi cx cy (jQ f s (qX cx cy r f s) al) r:=⟨_,rfl⟩;obtain⟨X,Y,E⟩:=Y0;rw[Kf hB ho hY0.symm]at hR;have hn:al≤qX cx cy r f s:=DL;have h0:0≤al:=DL;clear ho hB;generalize qX cx cy r f s=n at*;have db:0≤jQ f s n al∧jQ f s n al<129600000:=kG _ _;have RY:=fun W=>jN cx cy (jQ f s n al) r DP DP W _ hY0
 have sq: -32400000≤zD s 32400000∧zD s 32400000≤32400000:=by unfold zD;split<;>omega
 have wb:0≤kr n s al∧kr n s al≤129600000:=by
  by_cases hn0:0<n
  ·exact(QS hn0 h0 hn nb.2 DL).2
  ·unfold kr;rw[if_neg hn0];omega
 have sw: -129600000≤zD s (kr n s al)∧zD s (kr n s al)≤129600000:=by unfold zD;split<;>omega
 have AB:=fun W=>kY s DP DL W
 have SD:=fun W=>Yc cx cy r f s (kr n s al) DL DL W
 have SQ:=fun W=>Yc cx cy r f s 32400000 DL DL W
 have TN:=fun W=>gH f (zD s (kr n s al)) DP DP W
 have TQ:=fun W=>gH (jQ f s n al) (zD s 32400000) DP DP W
 rw[show zy f (zD s (kr n s al))=jQ f s n al from rfl]at TN;have MM:=fun(h:0<n)=>(QS h h0 hn nb.2 (show(s.natAbs:Int)≤129600000 by omega)).1
 have MD:=fun W=>kh al s.natAbs n DP DP DP W
 have W0:n≤0→kr n s al=0:=fun h=>by unfold kr;rw[if_neg DL]
 clear hY0;generalize zy (jQ f s n al) (zD s 32400000)=T at*;generalize jQ f s n al=D at*;generalize(s.natAbs:Int)=a at*;generalize zD s (kr n s al)=sW at*;generalize zD s 32400000=sQ at*;generalize kr n s al=wW at*;go_enter Tryz.func25,Tryz.ntmps25;go_upto_region 0 with fail;refine qu ?_;go_cut [2,4] (fun s2 s4 wx=>∃gA gO:Nat,s2= .pointer (some ⟨gA,0,none⟩)∧s4= .pointer (some ⟨gO,0,none⟩)∧qU w wx [(gO,[Iv 0,Iv 0],26),(gA,[Iv cx,Iv cy,Iv r,Iv f,Iv s],51)])
 case first=>
  go_wp2_with(first|(refine DU ?_;clear hM;intro g W hM))
  all_goals
   go_meet;exact⟨_,_,rfl,rfl,hM⟩
 case rest=>
 clear hM;obtain⟨gA,gO,rfl,rfl,hM⟩:=hcut;go_upto_if 27 with(first|(refine DU ?_;clear hM;intro g W hM)|(refine qf (TV _) ?_;clear hM;intro W1 hM)|(refine qf (TL _) ?_;clear hM;intro W1 hM));refine qu ?_;go_cut [8] (fun s8 wx=>s8=Iv wW∧qU w wx [(gO,[Iv 0,Iv 0],26),(gA,[Iv cx,Iv cy,Iv r,Iv f,Iv s],51)])
 case first=>
  by_cases hn0:0<n
  ·rw[MM hn0]at MD;go_wp2_with(first|(refine DU ?_;clear hM;intro g W hM)|refine DG (AB _) ?_|(refine JL (MD _) ?_;clear hM;intro n1 hM))
   all_goals
    go_meet;exact⟨rfl,hM⟩
  ·obtain rfl:wW=0:=W0 DL;go_wp2_with(first|(refine DU ?_;clear hM;intro g W hM))
   all_goals
    go_meet;exact⟨rfl,hM⟩
 case rest=>
 clear hM MM W0 MD AB TV TL;obtain⟨rfl,hM⟩:=hcut;go_upto_region 9 with(first|(refine DU ?_;clear hM;intro g W hM));refine qu ?_;refine qP [(gA,[Iv cx,Iv cy,Iv r,Iv f,Iv s],51)] hM DN ?_;(clear hM;intro W hM);refine rD 0 ?_;refine rD 1 ?_;refine rD 2 ?_;refine rD 3 ?_;refine dC 4 (fun K' hK'=> ?_);go_wp2_with(first|(refine qf (SD _) ?_;clear hM;intro W1 hM)|refine DG (TN _) ?_);refine rK hK' hM ?_;clear hK' K';refine dC 5 (fun K' hK'=> ?_);go_wp2_with(first|(refine qf (SD _) ?_;clear hM;intro W1 hM)|refine DG (TN _) ?_);refine rK hK' hM ?_;clear hK' K';refine rD 6 ?_;refine qF DN ?_;go_upto_region 10 with(first|(refine DU ?_;clear hM;intro g W hM)|(refine qf (RY _) ?_;clear hM;intro W1 hM));refine qu ?_;go_cut [10,11] (fun s10 s11 wx=>∃gP:Nat,s10= .pointer (some ⟨gP,0,none⟩)∧s11=Iv E∧qU w wx [(gP,[Iv X,Iv Y],26),(gO,[Iv 0,Iv 0],26),(gA,[Iv cx,Iv cy,Iv r,Iv f,Iv s],51)])
 case first=>
  go_wp2_with(first|(refine DU ?_;clear hM;intro g W hM)|(refine qf (RY _) ?_;clear hM;intro W1 hM))
  all_goals
   go_meet;exact⟨_,rfl,rfl,hM⟩
 case rest=>
 clear hM;obtain⟨gP,rfl,rfl,hM⟩:=hcut;by_cases hE:E=0
 ·subst hE;rw[if_pos rfl]at hR;subst hR;go_upto_region 13 with(first|(refine DU ?_;clear hM;intro g W hM));refine qu ?_;refine qP [(gP,[Iv X,Iv Y],26),(gA,[Iv cx,Iv cy,Iv r,Iv f,Iv s],51)] hM DN ?_;(clear hM;intro W hM);refine rD 0 ?_;refine rD 1 ?_;refine rD 2 ?_;refine dC 3 (fun K' hK'=> ?_);go_wp2_with(first|(refine qf (SQ _) ?_;clear hM;intro W1 hM)|refine DG (TQ _) ?_);refine rK hK' hM ?_;clear hK' K';refine dC 4 (fun K' hK'=> ?_);go_wp2_with(first|(refine qf (SQ _) ?_;clear hM;intro W1 hM)|refine DG (TQ _) ?_);refine rK hK' hM ?_;clear hK' K';refine dC 5 (fun K' hK'=> ?_);refine oS hM ?_;clear hM;intro W hM;refine rK hK' hM ?_;clear hK' K';refine rD 6 ?_;refine rD 7 ?_;refine qF DN ?_;go_wp2_with(first|(refine DU ?_;clear hM;intro g W hM))
  all_goals
   refine' vK hM rfl rfl Tryz.isAgg26 Tryz.sizeOf26 rfl rfl rfl ?_ ?_ ⟨?_,hM.below⟩;rotate_left 2;(·repeat constructor);(·rfl);(·rfl)
 ·rw[if_neg hE]at hR;subst hR;have T2:(E !=0)=true:=by rw[bne_iff_ne];exact hE
  clear hE;go_wp2_with(first|(refine DU ?_;clear hM;intro g W hM))
  all_goals
   refine' vK hM rfl rfl Tryz.isAgg26 Tryz.sizeOf26 rfl rfl rfl ?_ ?_ ⟨?_,hM.below⟩;rotate_left 2;(·repeat constructor);(·rfl);(·rfl)
set_option maxRecDepth 100000 in
set_option maxHeartbeats 8000000 in
theorem TX(cx cy r f s al:Int)(w:World)(R:Int×Int×Int×Int)(hR:R=jp cx cy r f s al):
 Calls Tryz.prog 135 #[.agg #[Iv cx,Iv cy,Iv r,Iv f,Iv s],Iv al] w fun e w'=>e= .returned (.tuple #[.agg #[Iv R.1,Iv R.2.1],Iv R.2.2.1,Iv R.2.2.2])∧Below w.heap.size w w':=by
 have TV:=fun W=>tC cx cy r f s W
 have TL:=fun W=>uY cx cy r f s W
 have hM:=qE w;rcases hB:ur cx cy r f s with _|_
 ·rw[Ke hB]at hR;rw[hB]at TV;subst hR;clear hB;go_enter Tryz.func135,Tryz.ntmps135;go_upto_region 0 with fail;refine qu ?_;go_cut [2,4] (fun s2 s4 wx=>∃gA gO:Nat,s2= .pointer (some ⟨gA,0,none⟩)∧s4= .pointer (some ⟨gO,0,none⟩)∧qU w wx [(gO,[Iv 0,Iv 0],26),(gA,[Iv cx,Iv cy,Iv r,Iv f,Iv s],51)])
  case first=>
   go_wp2_with(first|(refine DU ?_;clear hM;intro g W hM))
   all_goals
    go_meet;exact⟨_,_,rfl,rfl,hM⟩
  case rest=>
  clear hM;obtain⟨gA,gO,rfl,rfl,hM⟩:=hcut;go_wp2_with(first|(refine DU ?_;clear hM;intro g W hM)|(refine qf (TL _) ?_;clear hM;intro W1 hM)|(refine qf (TV _) ?_;clear hM;intro W1 hM))
  all_goals
   refine' vK hM rfl rfl Tryz.isAgg26 Tryz.sizeOf26 rfl rfl rfl ?_ ?_ ⟨?_,hM.below⟩;rotate_left 2;(·repeat constructor);(·rfl);(·rfl)
 rw[hB]at TV;have nb:=uP cx cy r f s;by_cases ho:al<0∨al>qX cx cy r f s
 ·rw[Yd hB ho]at hR;subst hR;have T:al<0∨(¬al<0∧al>qX cx cy r f s):=DL;generalize qX cx cy r f s=n at*;clear ho hB;go_enter Tryz.func135,Tryz.ntmps135;go_upto_region 0 with fail;refine qu ?_;go_cut [2,4] (fun s2 s4 wx=>∃gA gO:Nat,s2= .pointer (some ⟨gA,0,none⟩)∧s4= .pointer (some ⟨gO,0,none⟩)∧qU w wx [(gO,[Iv 0,Iv 0],26),(gA,[Iv cx,Iv cy,Iv r,Iv f,Iv s],51)])
  case first=>
   go_wp2_with(first|(refine DU ?_;clear hM;intro g W hM))
   all_goals
    go_meet;exact⟨_,_,rfl,rfl,hM⟩
  case rest=>
  clear hM;obtain⟨gA,gO,rfl,rfl,hM⟩:=hcut;rcases T with t1|⟨t1,t2⟩
  all_goals
   go_wp2_with(first|(refine DU ?_;clear hM;intro g W hM)|(refine qf (TL _) ?_;clear hM;intro W1 hM)|(refine qf (TV _) ?_;clear hM;intro W1 hM))
   all_goals
    refine' vK hM rfl rfl Tryz.isAgg26 Tryz.sizeOf26 rfl rfl rfl ?_ ?_ ⟨?_,hM.below⟩;rotate_left 2;(·repeat constructor);(·rfl);(·rfl)
 obtain⟨hv,⟨b1,b2⟩,⟨b3,b4⟩,b5,b6⟩:=xc hB;obtain⟨Y0,hY0⟩:∃Y,Y=zi cx cy (jQ f s (qX cx cy r f s) al) r:=⟨_,rfl⟩;obtain⟨X,Y,E⟩:=Y0;rw[Kf hB ho hY0.symm]at hR;have hn:al≤qX cx cy r f s:=DL;have h0:0≤al:=DL;clear ho hB;generalize qX cx cy r f s=n at*;have db:0≤jQ f s n al∧jQ f s n al<129600000:=kG _ _;have RY:=fun W=>jv cx cy (jQ f s n al) r DP DP W _ hY0
 have wb:0≤kr n s al∧kr n s al≤129600000:=by
  by_cases hn0:0<n
  ·exact(QS hn0 h0 hn nb.2 DL).2
  ·unfold kr;rw[if_neg hn0];omega
 have AB:=fun W=>QR s DL DL W
 have SD:=fun W=>uX f (kr n s al) s DP DL DL W
 have SQ:=fun W=>uX (jQ f s n al) 32400000 s DP DL DL W
 rw[show zy f (zD s (kr n s al))=jQ f s n al from rfl]at SD;have MM:=fun(h:0<n)=>(QS h h0 hn nb.2 (show(s.natAbs:Int)≤129600000 by omega)).1
 have MD:=fun W=>vD al s.natAbs n DP DP DP W
 have W0:n≤0→kr n s al=0:=fun h=>by unfold kr;rw[if_neg DL]
 clear hY0;generalize zy (jQ f s n al) (zD s 32400000)=T at*;generalize jQ f s n al=D at*;generalize(s.natAbs:Int)=a at*;generalize kr n s al=wW at*;go_enter Tryz.func135,Tryz.ntmps135;go_upto_region 0 with fail;refine qu ?_;go_cut [2,4] (fun s2 s4 wx=>∃gA gO:Nat,s2= .pointer (some ⟨gA,0,none⟩)∧s4= .pointer (some ⟨gO,0,none⟩)∧qU w wx [(gO,[Iv 0,Iv 0],26),(gA,[Iv cx,Iv cy,Iv r,Iv f,Iv s],51)])
 case first=>
  go_wp2_with(first|(refine DU ?_;clear hM;intro g W hM))
  all_goals
   go_meet;exact⟨_,_,rfl,rfl,hM⟩
 case rest=>
 clear hM;obtain⟨gA,gO,rfl,rfl,hM⟩:=hcut;go_upto_if 29 with(first|(refine DU ?_;clear hM;intro g W hM)|(refine qf (TL _) ?_;clear hM;intro W1 hM)|(refine qf (TV _) ?_;clear hM;intro W1 hM));refine qu ?_;go_cut [8] (fun s8 wx=>s8=Iv wW∧qU w wx [(gO,[Iv 0,Iv 0],26),(gA,[Iv cx,Iv cy,Iv r,Iv f,Iv s],51)])
 case first=>
  by_cases hn0:0<n
  ·rw[MM hn0]at MD;go_wp2_with(first|(refine DU ?_;clear hM;intro g W hM)|refine DG (AB _) ?_|(refine JL (MD _) ?_;clear hM;intro n1 hM))
   all_goals
    go_meet;exact⟨rfl,hM⟩
  ·obtain rfl:wW=0:=W0 DL;go_wp2_with(first|(refine DU ?_;clear hM;intro g W hM))
   all_goals
    go_meet;exact⟨rfl,hM⟩
 case rest=>
 clear hM MM W0 MD AB TV TL;obtain⟨rfl,hM⟩:=hcut;go_upto_region 11 with(first|(refine DU ?_;clear hM;intro g W hM)|refine DG (SD _) ?_|(refine qf (RY _) ?_;clear hM;intro W1 hM));refine qu ?_;obtain⟨gP,rfl⟩:=Dy hM;by_cases hE:E=0
 ·subst hE;rw[if_pos rfl]at hR;subst hR;go_upto_region 13 with(first|(refine DU ?_;clear hM;intro g W hM));refine qu ?_;refine qP [(gP,[Iv X,Iv Y],26),(gA,[Iv cx,Iv cy,Iv r,Iv f,Iv s],51)] hM DN ?_;(clear hM;intro W hM);refine rD 0 ?_;refine rD 1 ?_;refine rD 2 ?_;refine rD 3 ?_;refine dC 4 (fun K' hK'=> ?_);go_wp2_with(first|refine DG (SQ _) ?_);refine rK hK' hM ?_;clear hK' K';refine dC 5 (fun K' hK'=> ?_);refine oS hM ?_;clear hM;intro W hM;refine rK hK' hM ?_;clear hK' K';refine rD 6 ?_;refine rD 7 ?_;refine qF DN ?_;go_wp2_with(first|(refine DU ?_;clear hM;intro g W hM))
  all_goals
   refine' vK hM rfl rfl Tryz.isAgg26 Tryz.sizeOf26 rfl rfl rfl ?_ ?_ ⟨?_,hM.below⟩;rotate_left 2;(·repeat constructor);(·rfl);(·rfl)
 ·rw[if_neg hE]at hR;subst hR;have T2:(E !=0)=true:=by rw[bne_iff_ne];exact hE
  clear hE;go_wp2_with(first|(refine DU ?_;clear hM;intro g W hM))
  all_goals
   refine' vK hM rfl rfl Tryz.isAgg26 Tryz.sizeOf26 rfl rfl rfl ?_ ?_ ⟨?_,hM.below⟩;rotate_left 2;(·repeat constructor);(·rfl);(·rfl)
end Go.Proofs.YtcgpbnlhnafhjaaGreatDoor
