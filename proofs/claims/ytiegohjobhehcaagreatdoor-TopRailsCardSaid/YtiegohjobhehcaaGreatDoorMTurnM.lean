/-
  turn.At for all arguments, by boxes.
-/
import Derived.Test.YtiegohjobhehcaaGreatDoorMLineD
import Derived.Test.YtiegohjobhehcaaGreatDoorMMemD
import Derived.Test.YtiegohjobhehcaaGreatDoorMTurnA
namespace Go.Proofs.YtiegohjobhehcaaGreatDoor
open Go.RowKit
set_option linter.unusedVariables false
set_option linter.unusedSimpArgs false
set_option maxRecDepth 100000 in
set_option maxHeartbeats 8000000 in
theorem tI(cx cy r f s al:Int)(w:World)(R:Int×Int×Int×Int)(hR:R=jJ cx cy r f s al):
 Calls Tryz.prog 24 #[.agg #[Iv cx,Iv cy,Iv r,Iv f,Iv s],Iv al] w fun e w'=>e= .returned (.tuple #[.agg #[Iv R.1,Iv R.2.1],Iv R.2.2.1,Iv R.2.2.2])∧Below w.heap.size w w':=by
 have TV:=fun W=>Qn cx cy r f s W
 have TL:=fun W=>tH cx cy r f s W
 have hM:=qo w;rcases hB:xz cx cy r f s with _|_
 ·rw[Pn hB]at hR;rw[hB]at TV;subst hR;clear hB;go_enter Tryz.func24,Tryz.ntmps24;go_upto_region 0 with fail;refine qj ?_;go_cut [2,4] (fun s2 s4 wx=>∃gA gO:Nat,s2= .pointer (some ⟨gA,0,none⟩)∧s4= .pointer (some ⟨gO,0,none⟩)∧qF w wx [(gO,[Iv 0,Iv 0],26),(gA,[Iv cx,Iv cy,Iv r,Iv f,Iv s],51)])
  case first=>
   go_wp2_with(first|(refine qe ?_;clear hM;intro g W hM))
   all_goals
    go_meet;exact⟨_,_,rfl,rfl,hM⟩
  case rest=>
  clear hM;obtain⟨gA,gO,rfl,rfl,hM⟩:=hcut;go_wp2_with(first|(refine qe ?_;clear hM;intro g W hM)|(refine qt (TV _) ?_;clear hM;intro W1 hM))
  all_goals
   refine' uq hM rfl rfl Tryz.isAgg26 Tryz.sizeOf26 rfl rfl rfl ?_ ?_ ⟨?_,hM.below⟩;rotate_left 2;(·repeat constructor);(·rfl);(·rfl)
 rw[hB]at TV;have nb:=xJ cx cy r f s;by_cases ho:al<0∨al>zq cx cy r f s
 ·rw[ae hB ho]at hR;subst hR;have T:al<0∨(¬al<0∧al>zq cx cy r f s):=qg;generalize zq cx cy r f s=n at*;clear ho hB;go_enter Tryz.func24,Tryz.ntmps24;go_upto_region 0 with fail;refine qj ?_;go_cut [2,4] (fun s2 s4 wx=>∃gA gO:Nat,s2= .pointer (some ⟨gA,0,none⟩)∧s4= .pointer (some ⟨gO,0,none⟩)∧qF w wx [(gO,[Iv 0,Iv 0],26),(gA,[Iv cx,Iv cy,Iv r,Iv f,Iv s],51)])
  case first=>
   go_wp2_with(first|(refine qe ?_;clear hM;intro g W hM))
   all_goals
    go_meet;exact⟨_,_,rfl,rfl,hM⟩
  case rest=>
  clear hM;obtain⟨gA,gO,rfl,rfl,hM⟩:=hcut;rcases T with t1|⟨t1,t2⟩
  ·go_wp2_with(first|(refine qe ?_;clear hM;intro g W hM)|(refine qt (TV _) ?_;clear hM;intro W1 hM)|(refine qt (TL _) ?_;clear hM;intro W1 hM))
   all_goals
    refine' uq hM rfl rfl Tryz.isAgg26 Tryz.sizeOf26 rfl rfl rfl ?_ ?_ ⟨?_,hM.below⟩;rotate_left 2;(·repeat constructor);(·rfl);(·rfl)
  ·go_wp2_with(first|(refine qe ?_;clear hM;intro g W hM)|(refine qt (TV _) ?_;clear hM;intro W1 hM)|(refine qt (TL _) ?_;clear hM;intro W1 hM))
   all_goals
    refine' uq hM rfl rfl Tryz.isAgg26 Tryz.sizeOf26 rfl rfl rfl ?_ ?_ ⟨?_,hM.below⟩;rotate_left 2;(·repeat constructor);(·rfl);(·rfl)
 obtain⟨hv,⟨b1,b2⟩,⟨b3,b4⟩,b5,b6⟩:=UB hB;obtain⟨Y0,hY0⟩:∃Y,Y=zn cx cy (uO f s (zq cx cy r f s) al) r:=⟨_,rfl⟩;obtain⟨X,Y,E⟩:=Y0;rw[Po hB ho hY0.symm]at hR;have hn:al≤zq cx cy r f s:=qg;have h0:0≤al:=qg;clear ho hB;generalize zq cx cy r f s=n at*;have db:0≤uO f s n al∧uO f s n al<129600000:=QS _ _;have RY:=fun W=>jY cx cy (uO f s n al) r yq yq W _ hY0
 have sq: -32400000≤jU s 32400000∧jU s 32400000≤32400000:=by unfold jU;split<;>omega
 have wb:0≤Qz n s al∧Qz n s al≤129600000:=by
  by_cases hn0:0<n
  ·exact(cG hn0 h0 hn nb.2 qg).2
  ·unfold Qz;rw[if_neg hn0];omega
 have sw: -129600000≤jU s (Qz n s al)∧jU s (Qz n s al)≤129600000:=by unfold jU;split<;>omega
 have AB:=fun W=>kV s yq qg W
 have SD:=fun W=>YH cx cy r f s (Qz n s al) qg qg W
 have SQ:=fun W=>YH cx cy r f s 32400000 qg qg W
 have TN:=fun W=>tE f (jU s (Qz n s al)) yq yq W
 have TQ:=fun W=>tE (uO f s n al) (jU s 32400000) yq yq W
 rw[show jl f (jU s (Qz n s al))=uO f s n al from rfl]at TN;have MM:=fun(h:0<n)=>(cG h h0 hn nb.2 (show(s.natAbs:Int)≤129600000 by omega)).1
 have MD:=fun W=>vZ al s.natAbs n yq yq yq W
 have W0:n≤0→Qz n s al=0:=fun h=>by unfold Qz;rw[if_neg qg]
 clear hY0;generalize jl (uO f s n al) (jU s 32400000)=T at*;generalize uO f s n al=D at*;generalize(s.natAbs:Int)=a at*;generalize jU s (Qz n s al)=sW at*;generalize jU s 32400000=sQ at*;generalize Qz n s al=wW at*;go_enter Tryz.func24,Tryz.ntmps24;go_upto_region 0 with fail;refine qj ?_;go_cut [2,4] (fun s2 s4 wx=>∃gA gO:Nat,s2= .pointer (some ⟨gA,0,none⟩)∧s4= .pointer (some ⟨gO,0,none⟩)∧qF w wx [(gO,[Iv 0,Iv 0],26),(gA,[Iv cx,Iv cy,Iv r,Iv f,Iv s],51)])
 case first=>
  go_wp2_with(first|(refine qe ?_;clear hM;intro g W hM))
  all_goals
   go_meet;exact⟨_,_,rfl,rfl,hM⟩
 case rest=>
 clear hM;obtain⟨gA,gO,rfl,rfl,hM⟩:=hcut;go_upto_if 27 with(first|(refine qe ?_;clear hM;intro g W hM)|(refine qt (TV _) ?_;clear hM;intro W1 hM)|(refine qt (TL _) ?_;clear hM;intro W1 hM));refine qj ?_;go_cut [8] (fun s8 wx=>s8=Iv wW∧qF w wx [(gO,[Iv 0,Iv 0],26),(gA,[Iv cx,Iv cy,Iv r,Iv f,Iv s],51)])
 case first=>
  by_cases hn0:0<n
  ·rw[MM hn0]at MD;go_wp2_with(first|(refine qe ?_;clear hM;intro g W hM)|refine qN (AB _) ?_|(refine Gr (MD _) ?_;clear hM;intro n1 hM))
   all_goals
    go_meet;exact⟨rfl,hM⟩
  ·obtain rfl:wW=0:=W0 qg;go_wp2_with(first|(refine qe ?_;clear hM;intro g W hM))
   all_goals
    go_meet;exact⟨rfl,hM⟩
 case rest=>
 clear hM MM W0 MD AB TV TL;obtain⟨rfl,hM⟩:=hcut;go_upto_region 9 with(first|(refine qe ?_;clear hM;intro g W hM));refine qj ?_;refine qA [(gA,[Iv cx,Iv cy,Iv r,Iv f,Iv s],51)] hM qM ?_;(clear hM;intro W hM);refine rD 0 ?_;refine rD 1 ?_;refine rD 2 ?_;refine rD 3 ?_;refine dC 4 (fun K' hK'=> ?_);go_wp2_with(first|(refine qt (SD _) ?_;clear hM;intro W1 hM)|refine qN (TN _) ?_);refine rK hK' hM ?_;clear hK' K';refine dC 5 (fun K' hK'=> ?_);go_wp2_with(first|(refine qt (SD _) ?_;clear hM;intro W1 hM)|refine qN (TN _) ?_);refine rK hK' hM ?_;clear hK' K';refine rD 6 ?_;refine qp qM ?_;go_upto_region 10 with(first|(refine qe ?_;clear hM;intro g W hM)|(refine qt (RY _) ?_;clear hM;intro W1 hM));refine qj ?_;go_cut [10,11] (fun s10 s11 wx=>∃gP:Nat,s10= .pointer (some ⟨gP,0,none⟩)∧s11=Iv E∧qF w wx [(gP,[Iv X,Iv Y],26),(gO,[Iv 0,Iv 0],26),(gA,[Iv cx,Iv cy,Iv r,Iv f,Iv s],51)])
 case first=>
  go_wp2_with(first|(refine qe ?_;clear hM;intro g W hM)|(refine qt (RY _) ?_;clear hM;intro W1 hM))
  all_goals
   go_meet;exact⟨_,rfl,rfl,hM⟩
 case rest=>
 clear hM;obtain⟨gP,rfl,rfl,hM⟩:=hcut;by_cases hE:E=0
 ·subst hE;rw[if_pos rfl]at hR;subst hR;go_upto_region 13 with(first|(refine qe ?_;clear hM;intro g W hM));refine qj ?_;refine qA [(gP,[Iv X,Iv Y],26),(gA,[Iv cx,Iv cy,Iv r,Iv f,Iv s],51)] hM qM ?_;(clear hM;intro W hM);refine rD 0 ?_;refine rD 1 ?_;refine rD 2 ?_;refine dC 3 (fun K' hK'=> ?_);go_wp2_with(first|(refine qt (SQ _) ?_;clear hM;intro W1 hM)|refine qN (TQ _) ?_);refine rK hK' hM ?_;clear hK' K';refine dC 4 (fun K' hK'=> ?_);go_wp2_with(first|(refine qt (SQ _) ?_;clear hM;intro W1 hM)|refine qN (TQ _) ?_);refine rK hK' hM ?_;clear hK' K';refine dC 5 (fun K' hK'=> ?_);refine oS hM ?_;clear hM;intro W hM;refine rK hK' hM ?_;clear hK' K';refine rD 6 ?_;refine rD 7 ?_;refine qp qM ?_;go_wp2_with(first|(refine qe ?_;clear hM;intro g W hM))
  all_goals
   refine' uq hM rfl rfl Tryz.isAgg26 Tryz.sizeOf26 rfl rfl rfl ?_ ?_ ⟨?_,hM.below⟩;rotate_left 2;(·repeat constructor);(·rfl);(·rfl)
 ·rw[if_neg hE]at hR;subst hR;have T2:(E !=0)=true:=by rw[bne_iff_ne];exact hE
  clear hE;go_wp2_with(first|(refine qe ?_;clear hM;intro g W hM))
  all_goals
   refine' uq hM rfl rfl Tryz.isAgg26 Tryz.sizeOf26 rfl rfl rfl ?_ ?_ ⟨?_,hM.below⟩;rotate_left 2;(·repeat constructor);(·rfl);(·rfl)
end Go.Proofs.YtiegohjobhehcaaGreatDoor
