/-
  The check of a setup.
-/
import Derived.Test.YtiegohjobhehcaaGreatDoorMCons
import Derived.Test.YtiegohjobhehcaaGreatDoorMWindA
import Derived.Test.YtiegohjobhehcaaGreatDoorMPrSet
set_option maxRecDepth 100000
set_option maxHeartbeats 16000000
namespace Go.Proofs.YtiegohjobhehcaaGreatDoor
open Go.RowKit
set_option linter.unusedVariables false
set_option linter.unusedSimpArgs false
theorem bh(n lo hi:Int)(w:World):Calls Tryz.prog 118 #[Iv n,Iv lo,Iv hi] w (bR (fun b:Bool=> .bool b) (fun b=>Hid (b=true↔(lo≤n∧n≤hi))) w):=by
 by_cases h1:lo≤n<;>by_cases h2:n≤hi
 all_goals
  go_enter Tryz.func118,Tryz.ntmps118;go_wp2
  all_goals
   go_ret;exact⟨_,rfl,hide (by simp<;>omega),Below.refl _ _⟩
theorem tC(n:Int)(w:World):Calls Tryz.prog 109 #[Iv n] w (bR (fun b:Bool=> .bool b) (fun b=>Hid (b=true↔(-200000≤n∧n≤6000000))) w):=by
 have hM:=qo w;go_enter Tryz.func109,Tryz.ntmps109;go_wp2_with(first|(refine qe ?_;clear hM;intro g W hM)|(go_at_call 118;(with_reducible refine uD hM (bh _ _ _ _) ?_ ?_)<;>(clear hM;intro W1 hb hM;first|(have hs:=Qv hb.out;clear hb)|(have hs:=ZM hb.out;clear hb))))
 all_goals first
  |(go_ret;exact⟨_,rfl,hide ⟨fun _=>hs,fun _=>rfl⟩,hM.below⟩)
  |(go_ret;exact⟨_,rfl,hide ⟨fun h=>Bool.noConfusion h,fun h=>absurd h hs⟩,hM.below⟩)
theorem dK{x y d al ah sl sh:Int}{k:Nat}(h1: -2000000≤x∧x≤2000000)(h2: -2000000≤y∧y≤2000000)(h3:0≤d∧d≤8000000)(h4:k=0→d=0)(h5: -200000≤al∧al≤6000000)(h6: -200000≤ah∧ah≤6000000)(h7:al≤ah)(h8:0≤sl)(h9:sl≤sh)(h10:sh≤1000):pL ⟨x,y,d,al,ah,sl,sh⟩ k:=⟨⟨h1,h2⟩,h3,h4,⟨⟨h5.1,h7⟩,h6.2⟩,h8,h9,h10⟩
theorem Ta(x y d al ah sl sh:Int)(w:World):Calls Tryz.prog 114 #[.agg #[Iv x,Iv y,Iv d,Iv al,Iv ah,Iv sl,Iv sh],Iv 0] w (bR (fun q:Int=>Iv q) (fun q=>qz q∧(q=0→pL ⟨x,y,d,al,ah,sl,sh⟩ 0)) w):=by
 have hM:=qo w;by_cases hd:d=0
 ·subst hd;have hd1:((0:Int) !=0)=false:=rfl;go_enter Tryz.func114,Tryz.ntmps114;go_wp2_with(first|(refine qe ?_;clear hM;intro g W hM)|(go_at_call 118;(with_reducible refine uD hM (bh _ _ _ _) ?_ ?_)<;>(clear hM;intro W1 hb hM;first|(have hs:=Qv hb.out;clear hb)|(have hs:=ZM hb.out;clear hb)))|(go_at_call 109;(with_reducible refine uD hM (tC _ _) ?_ ?_)<;>(clear hM;intro W1 hb hM;first|(have hs:=Qv hb.out;clear hb)|(have hs:=ZM hb.out;clear hb))))
  all_goals first
   |(go_ret;exact⟨_,rfl,⟨⟨qG,qG⟩,fun h=>absurd h qG⟩,hM.below⟩)
   |(go_ret;exact⟨_,rfl,⟨zg,fun _=>dK qg qg qg (fun _=>rfl) qg qg qg qg qg qg⟩,hM.below⟩)
 ·have hd1:(d !=0)=true:=by simpa using hd
  clear hd;go_enter Tryz.func114,Tryz.ntmps114;go_wp2_with(first|(refine qe ?_;clear hM;intro g W hM)|(go_at_call 118;(with_reducible refine uD hM (bh _ _ _ _) ?_ ?_)<;>(clear hM;intro W1 hb hM;first|(have hs:=Qv hb.out;clear hb)|(have hs:=ZM hb.out;clear hb)))|(go_at_call 109;(with_reducible refine uD hM (tC _ _) ?_ ?_)<;>(clear hM;intro W1 hb hM;first|(have hs:=Qv hb.out;clear hb)|(have hs:=ZM hb.out;clear hb))))
  all_goals(go_ret;exact⟨_,rfl,⟨⟨qG,qG⟩,fun h=>absurd h qG⟩,hM.below⟩)
theorem Tb(x y d al ah sl sh:Int)(k:Nat)(w:World)(hk:0<k):Calls Tryz.prog 114 #[.agg #[Iv x,Iv y,Iv d,Iv al,Iv ah,Iv sl,Iv sh],Iv (k:Int)] w (bR (fun q:Int=>Iv q) (fun q=>qz q∧(q=0→pL ⟨x,y,d,al,ah,sl,sh⟩ k)) w):=by
 have hM:=qo w;have e1:((k:Int)==0)=false:=beq_eq_false_iff_ne.2 qg;have hkn:¬k=0:=qg;go_enter Tryz.func114,Tryz.ntmps114;go_wp2_with(first|(refine qe ?_;clear hM;intro g W hM)|(go_at_call 118;(with_reducible refine uD hM (bh _ _ _ _) ?_ ?_)<;>(clear hM;intro W1 hb hM;first|(have hs:=Qv hb.out;clear hb)|(have hs:=ZM hb.out;clear hb)))|(go_at_call 109;(with_reducible refine uD hM (tC _ _) ?_ ?_)<;>(clear hM;intro W1 hb hM;first|(have hs:=Qv hb.out;clear hb)|(have hs:=ZM hb.out;clear hb))))
 all_goals first
  |(go_ret;exact⟨_,rfl,⟨⟨qG,qG⟩,fun h=>absurd h qG⟩,hM.below⟩)
  |(go_ret;exact⟨_,rfl,⟨zg,fun _=>dK qg qg qg (fun h=>absurd h hkn) qg qg qg qg qg qg⟩,hM.below⟩)
theorem Tc(n:Nd)(k:Nat)(w:World):Calls Tryz.prog 114 #[.agg n.cells.toArray,Iv (k:Int)] w (bR (fun q:Int=>Iv q) (fun q=>qz q∧(q=0→pL n k)) w):=by
 obtain⟨x,y,d,al,ah,sl,sh⟩:=n;rcases k with _|k
 ·exact Ta x y d al ah sl sh w
 ·exact Tb x y d al ah sl sh (k+1) w qg
theorem Td{n:Nd}{j:Nat}{v:Value}(h:[Value.int .i64 n.x,Iv n.y][j]? =some v):n.cells[j]? =some v:=by
 match j,h with
 |0,h=>exact h
 |1,h=>exact h
 |j+2,h=>simp at h
theorem vU{w:World}{u:Su}{f:Nat→Nd}{b o:Nat}(h:xF w u f)(hS:u.S=some ⟨b,o,none⟩){k:Nat}(hk:k<u.n):Hid (∀(j:Nat) (v:Value),(f k).cells[j]? =some v→w.cell? ⟨b,o+k*7+j,none⟩=some v)∧(f k).ok:=by
 have:=h.nd;rw[hS]at this;have h2:=rR this hk;exact⟨hide h2.1,h2.2⟩
theorem Yw(u:Su)(f:Nat→Nd)(w:World)(HS:Hid (xF w u f)):Calls Tryz.prog 55 #[.agg u.cells.toArray] w (bR (fun q:Int=>Iv q) (fun q=>qz q∧(q=0→KJ u f)) w):=by
 have hM:=qo w;have hn63:=HS.out.n63;unfold maxLen at hn63;go_enter Tryz.func55,Tryz.ntmps55;go_upto_region 3 with(first|(refine qe ?_;clear hM;intro g W hM))
 all_goals first
  |(go_ret;exact⟨_,rfl,⟨⟨qG,qG⟩,fun h=>absurd h qG⟩,hM.below⟩)
  |skip
 have HN:Hid (2≤u.n∧u.n≤64):=hide qg;obtain⟨gu,rfl⟩:=uC hM;obtain⟨bn,on,hS,-⟩:=HS.out.nd 0 (by have:=HN.out;omega);have hS0:Hid (u.cells[0]? =some (.slice (some ⟨bn,on,none⟩) u.n u.c)):=hide (by rw[←hS];rfl);have HSS:=hide hS;clear hS;go_wp2_with(first|((with_reducible refine lX ?_);refine yR hM rfl rfl rfl hS0.out (ur rfl) ?_)|(refine qe ?_;clear hM;intro g W hM));go_loopw [22] (fun s wx=>∃k:Nat,k≤u.n∧s=Iv (k:Int)∧Hid (∀j,j<k→pL (f j) j)∧qF w wx [(gu,u.cells,42)]) (fun s _=>u.n-(intOf s).toNat)
 case atStart=>exact⟨0,by omega,rfl,hide (fun j hj=>absurd hj qg),hM⟩
 case round=>
  clear hM;obtain⟨k,hk,rfl,HI,hM⟩:=hrel;by_cases hlt:k<u.n
  ·obtain⟨HC,-⟩:=vU HS.out HSS.out hlt;go_wp2_with(first|(go_at_call 114;(with_reducible refine Bq hM (Tc (f k) k _) ?_ ?_)<;>(clear hM;first|(intro q W1 hq hz hz1 hM)|(intro W1 HK hM)))|((with_reducible refine lX ?_);refine yR hM rfl rfl rfl hS0.out (ur rfl) ?_)|((with_reducible refine lX ?_);refine yL hM rfl (by first|exact rfl|(go_simp;done)) rfl (Zg rfl) HC.out (bQ rfl) ?_)|(refine qe ?_;clear hM;intro g W hM))
   all_goals first
    |(go_ret;exact⟨_,rfl,⟨qY,fun h=>absurd h qY⟩,hM.below⟩)
    |(go_roundw
      case rel=>exact⟨k+1,by omega,by go_num,hide (ek HI.out HK.out),qC hM⟩
      case measure=>simp[intOf];omega)
  ·have HA:=hide (show∀j,j<u.n→pL (f j) j from fun j hj=>HI.out j qg);clear HI;go_upto_region 19 with(first|(go_at_call 115;(with_reducible refine Bq hM (Gx u.pf _ (hide (jR hM HS.out.pf))) ?_ ?_)<;>(clear hM;first|(intro q W1 hq hz hz1 hM)|(intro W1 HP hM;clear HP)))|(go_at_call 116;(with_reducible refine Bq hM (Gh u.gd _ (hide (zZ hM HS.out.gd))) ?_ ?_)<;>(clear hM;first|(intro q W1 hq hz hz1 hM)|(intro W1 HG hM)))|(go_at_call 117;(with_reducible refine cx hM (Ym u.f0 u.f1 u.f2 u.f3 _) ?_);clear hM;rintro qf W1 ⟨hqf,-⟩ hM;by_cases hz:qf=0<;>first|subst hz|(have hz1:(qf !=0)=true:=by simpa using hz))|((with_reducible refine lX ?_);refine yR hM rfl rfl rfl hS0.out (ur rfl) ?_)|(refine qe ?_;clear hM;intro g W hM))
   all_goals first
    |(go_ret;first|(exact⟨_,rfl,⟨qY,fun h=>absurd h qY⟩,hM.below⟩)|(exact⟨_,rfl,⟨⟨qG,qG⟩,fun h=>absurd h qG⟩,hM.below⟩))
    |skip
   go_wp2_with(first|(refine qe ?_;clear hM;intro g W hM)|(go_at_call 118;(with_reducible refine uD hM (bh _ _ _ _) ?_ ?_)<;>(clear hM;intro W1 hb hM;first|(have hs:=Qv hb.out;clear hb)|(have hs:=ZM hb.out;clear hb)))|(go_at_call 109;(with_reducible refine uD hM (tC _ _) ?_ ?_)<;>(clear hM;intro W1 hb hM;first|(have hs:=Qv hb.out;clear hb)|(have hs:=ZM hb.out;clear hb))))
   all_goals first
    |(go_ret;exact⟨_,rfl,⟨⟨qG,qG⟩,fun h=>absurd h qG⟩,hM.below⟩)
    |(go_ret;exact⟨_,rfl,⟨zg,fun _=>⟨HN.out,HA.out,HG.out,by omega,by omega,by omega,by omega,qg⟩⟩,hM.below⟩)
end Go.Proofs.YtiegohjobhehcaaGreatDoor
