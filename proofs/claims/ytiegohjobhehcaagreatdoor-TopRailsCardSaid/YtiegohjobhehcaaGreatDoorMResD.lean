/-
  resolve: options, Resolve; for all arguments.
-/
import Derived.Test.YtiegohjobhehcaaGreatDoorMLaid25
import Derived.Test.YtiegohjobhehcaaGreatDoorMWide
set_option maxRecDepth 100000
set_option maxHeartbeats 16000000
namespace Go.Proofs.YtiegohjobhehcaaGreatDoor
open Go.RowKit
set_option linter.unusedVariables false
set_option linter.unusedSimpArgs false
theorem yg(spd bank oalt gr:Int)(w:World):
 Calls Tryz.prog 30 #[.agg #[Iv spd,Iv bank,Iv oalt,Iv gr]] w fun e w'=>e= .returned (Iv (kJ spd bank oalt gr))∧Below w.heap.size w w':=by
 have hM:=qo w;go_enter Tryz.func30,Tryz.ntmps30;go_wp2_with(first|(refine qe ?_;clear hM;intro g W hM))
 all_goals
  go_ret;exact⟨qQ (by unfold kJ;first|rw[if_pos qg]|rw[if_neg qg]),hM.below⟩
theorem zS(c:Int)(w:World):Calls Tryz.prog 32 #[Iv c] w fun e w'=>e= .returned (.bool (decide (0≤c∧c<129600000)))∧w=w':=by
 by_cases h1:0≤c
 ·by_cases h2:c<129600000
  ·have e2:decide (c<129600000)=true:=decide_eq_true h2;have e3:=hide (decide_eq_true (show 0≤c∧c<129600000 by omega));go_enter Tryz.func32,Tryz.ntmps32;go_wp2_with fail
   all_goals
    go_ret
    first|exact⟨vO e3.out.symm,rfl⟩|exact⟨rfl,rfl⟩
  ·have e2:decide (c<129600000)=false:=decide_eq_false h2;have e3:=hide (decide_eq_false (show¬(0≤c∧c<129600000) by omega));go_enter Tryz.func32,Tryz.ntmps32;go_wp2_with fail
   all_goals
    go_ret
    first|exact⟨vO e3.out.symm,rfl⟩|exact⟨rfl,rfl⟩
 ·have e2:decide (0≤c)=false:=decide_eq_false h1;have e3:=hide (decide_eq_false (show¬(0≤c∧c<129600000) by omega));go_enter Tryz.func32,Tryz.ntmps32;go_wp2_with fail
  all_goals
   go_ret
   first|exact⟨vO e3.out.symm,rfl⟩|exact⟨rfl,rfl⟩
structure xI(x:En):Prop where
 leg:Ar x
 crs:qz x.crs
 ex:qz x.ex
 ey:qz x.ey
theorem xI.tyb{x:En}(h:xI x):0≤x.ty:=h.leg.ty.1
theorem uP{p:Tk×Int}:p=(p.1,p.2):=rfl
theorem qP{w W:World}{L:List qZ}(hM:qF w W L)(h:yE w):yE W:=fun i n hi=>hM.old (h i n hi)
theorem Lr{x:En}(h:x.ty=1):(x.ty==1)=true∧(x.ty==2)=false∧(x.ty==3)=false∧(x.ty==4)=false∧(x.ty==5)=false∧(x.ty==6)=false∧(x.ty==7)=false∧(x.ty==8)=false∧(x.ty==9)=false∧(x.ty==10)=false∧(x.ty==11)=false∧(x.ty==12)=false∧(x.ty==13)=false∧(x.ty==14)=false∧(x.ty==15)=false∧(x.ty==16)=false∧(x.ty==17)=false:=by rw[h];decide
theorem Ls{x:En}(h:x.ty=2):(x.ty==1)=false∧(x.ty==2)=true∧(x.ty==3)=false∧(x.ty==4)=false∧(x.ty==5)=false∧(x.ty==6)=false∧(x.ty==7)=false∧(x.ty==8)=false∧(x.ty==9)=false∧(x.ty==10)=false∧(x.ty==11)=false∧(x.ty==12)=false∧(x.ty==13)=false∧(x.ty==14)=false∧(x.ty==15)=false∧(x.ty==16)=false∧(x.ty==17)=false:=by rw[h];decide
theorem Lt{x:En}(h:x.ty=3):(x.ty==1)=false∧(x.ty==2)=false∧(x.ty==3)=true∧(x.ty==4)=false∧(x.ty==5)=false∧(x.ty==6)=false∧(x.ty==7)=false∧(x.ty==8)=false∧(x.ty==9)=false∧(x.ty==10)=false∧(x.ty==11)=false∧(x.ty==12)=false∧(x.ty==13)=false∧(x.ty==14)=false∧(x.ty==15)=false∧(x.ty==16)=false∧(x.ty==17)=false:=by rw[h];decide
theorem Lu{x:En}(h:x.ty=4):(x.ty==1)=false∧(x.ty==2)=false∧(x.ty==3)=false∧(x.ty==4)=true∧(x.ty==5)=false∧(x.ty==6)=false∧(x.ty==7)=false∧(x.ty==8)=false∧(x.ty==9)=false∧(x.ty==10)=false∧(x.ty==11)=false∧(x.ty==12)=false∧(x.ty==13)=false∧(x.ty==14)=false∧(x.ty==15)=false∧(x.ty==16)=false∧(x.ty==17)=false:=by rw[h];decide
theorem Lv{x:En}(h:x.ty=5):(x.ty==1)=false∧(x.ty==2)=false∧(x.ty==3)=false∧(x.ty==4)=false∧(x.ty==5)=true∧(x.ty==6)=false∧(x.ty==7)=false∧(x.ty==8)=false∧(x.ty==9)=false∧(x.ty==10)=false∧(x.ty==11)=false∧(x.ty==12)=false∧(x.ty==13)=false∧(x.ty==14)=false∧(x.ty==15)=false∧(x.ty==16)=false∧(x.ty==17)=false:=by rw[h];decide
theorem Lw{x:En}(h:x.ty=6):(x.ty==1)=false∧(x.ty==2)=false∧(x.ty==3)=false∧(x.ty==4)=false∧(x.ty==5)=false∧(x.ty==6)=true∧(x.ty==7)=false∧(x.ty==8)=false∧(x.ty==9)=false∧(x.ty==10)=false∧(x.ty==11)=false∧(x.ty==12)=false∧(x.ty==13)=false∧(x.ty==14)=false∧(x.ty==15)=false∧(x.ty==16)=false∧(x.ty==17)=false:=by rw[h];decide
theorem Lx{x:En}(h:x.ty=7):(x.ty==1)=false∧(x.ty==2)=false∧(x.ty==3)=false∧(x.ty==4)=false∧(x.ty==5)=false∧(x.ty==6)=false∧(x.ty==7)=true∧(x.ty==8)=false∧(x.ty==9)=false∧(x.ty==10)=false∧(x.ty==11)=false∧(x.ty==12)=false∧(x.ty==13)=false∧(x.ty==14)=false∧(x.ty==15)=false∧(x.ty==16)=false∧(x.ty==17)=false:=by rw[h];decide
theorem Ly{x:En}(h:x.ty=8):(x.ty==1)=false∧(x.ty==2)=false∧(x.ty==3)=false∧(x.ty==4)=false∧(x.ty==5)=false∧(x.ty==6)=false∧(x.ty==7)=false∧(x.ty==8)=true∧(x.ty==9)=false∧(x.ty==10)=false∧(x.ty==11)=false∧(x.ty==12)=false∧(x.ty==13)=false∧(x.ty==14)=false∧(x.ty==15)=false∧(x.ty==16)=false∧(x.ty==17)=false:=by rw[h];decide
theorem Lz{x:En}(h:x.ty=9):(x.ty==1)=false∧(x.ty==2)=false∧(x.ty==3)=false∧(x.ty==4)=false∧(x.ty==5)=false∧(x.ty==6)=false∧(x.ty==7)=false∧(x.ty==8)=false∧(x.ty==9)=true∧(x.ty==10)=false∧(x.ty==11)=false∧(x.ty==12)=false∧(x.ty==13)=false∧(x.ty==14)=false∧(x.ty==15)=false∧(x.ty==16)=false∧(x.ty==17)=false:=by rw[h];decide
theorem Eh{x:En}(h:x.ty=10):(x.ty==1)=false∧(x.ty==2)=false∧(x.ty==3)=false∧(x.ty==4)=false∧(x.ty==5)=false∧(x.ty==6)=false∧(x.ty==7)=false∧(x.ty==8)=false∧(x.ty==9)=false∧(x.ty==10)=true∧(x.ty==11)=false∧(x.ty==12)=false∧(x.ty==13)=false∧(x.ty==14)=false∧(x.ty==15)=false∧(x.ty==16)=false∧(x.ty==17)=false:=by rw[h];decide
theorem Ei{x:En}(h:x.ty=11):(x.ty==1)=false∧(x.ty==2)=false∧(x.ty==3)=false∧(x.ty==4)=false∧(x.ty==5)=false∧(x.ty==6)=false∧(x.ty==7)=false∧(x.ty==8)=false∧(x.ty==9)=false∧(x.ty==10)=false∧(x.ty==11)=true∧(x.ty==12)=false∧(x.ty==13)=false∧(x.ty==14)=false∧(x.ty==15)=false∧(x.ty==16)=false∧(x.ty==17)=false:=by rw[h];decide
theorem Ej{x:En}(h:x.ty=12):(x.ty==1)=false∧(x.ty==2)=false∧(x.ty==3)=false∧(x.ty==4)=false∧(x.ty==5)=false∧(x.ty==6)=false∧(x.ty==7)=false∧(x.ty==8)=false∧(x.ty==9)=false∧(x.ty==10)=false∧(x.ty==11)=false∧(x.ty==12)=true∧(x.ty==13)=false∧(x.ty==14)=false∧(x.ty==15)=false∧(x.ty==16)=false∧(x.ty==17)=false:=by rw[h];decide
theorem Ek{x:En}(h:x.ty=13):(x.ty==1)=false∧(x.ty==2)=false∧(x.ty==3)=false∧(x.ty==4)=false∧(x.ty==5)=false∧(x.ty==6)=false∧(x.ty==7)=false∧(x.ty==8)=false∧(x.ty==9)=false∧(x.ty==10)=false∧(x.ty==11)=false∧(x.ty==12)=false∧(x.ty==13)=true∧(x.ty==14)=false∧(x.ty==15)=false∧(x.ty==16)=false∧(x.ty==17)=false:=by rw[h];decide
theorem Em{x:En}(h:x.ty=14):(x.ty==1)=false∧(x.ty==2)=false∧(x.ty==3)=false∧(x.ty==4)=false∧(x.ty==5)=false∧(x.ty==6)=false∧(x.ty==7)=false∧(x.ty==8)=false∧(x.ty==9)=false∧(x.ty==10)=false∧(x.ty==11)=false∧(x.ty==12)=false∧(x.ty==13)=false∧(x.ty==14)=true∧(x.ty==15)=false∧(x.ty==16)=false∧(x.ty==17)=false:=by rw[h];decide
theorem Eo{x:En}(h:x.ty=15):(x.ty==1)=false∧(x.ty==2)=false∧(x.ty==3)=false∧(x.ty==4)=false∧(x.ty==5)=false∧(x.ty==6)=false∧(x.ty==7)=false∧(x.ty==8)=false∧(x.ty==9)=false∧(x.ty==10)=false∧(x.ty==11)=false∧(x.ty==12)=false∧(x.ty==13)=false∧(x.ty==14)=false∧(x.ty==15)=true∧(x.ty==16)=false∧(x.ty==17)=false:=by rw[h];decide
theorem Ep{x:En}(h:x.ty=16):(x.ty==1)=false∧(x.ty==2)=false∧(x.ty==3)=false∧(x.ty==4)=false∧(x.ty==5)=false∧(x.ty==6)=false∧(x.ty==7)=false∧(x.ty==8)=false∧(x.ty==9)=false∧(x.ty==10)=false∧(x.ty==11)=false∧(x.ty==12)=false∧(x.ty==13)=false∧(x.ty==14)=false∧(x.ty==15)=false∧(x.ty==16)=true∧(x.ty==17)=false:=by rw[h];decide
theorem Er{x:En}(h:x.ty=17):(x.ty==1)=false∧(x.ty==2)=false∧(x.ty==3)=false∧(x.ty==4)=false∧(x.ty==5)=false∧(x.ty==6)=false∧(x.ty==7)=false∧(x.ty==8)=false∧(x.ty==9)=false∧(x.ty==10)=false∧(x.ty==11)=false∧(x.ty==12)=false∧(x.ty==13)=false∧(x.ty==14)=false∧(x.ty==15)=false∧(x.ty==16)=false∧(x.ty==17)=true:=by rw[h];decide
open Go.ChangeShapes Go.WideShapes Go.ChangeAt Go.RowKit
structure Cd(x:En):Prop where
 w:xI x
 dst:qz x.dst
 rad:qz x.rad
 tht:qz x.tht
 lo:qz x.lo
 hi:qz x.hi
 spd:qz x.spd
 rnp:qz x.rnp
 mx:qz x.mx
 my:qz x.my
 sec:0≤x.sec∧x.sec≤255
 via:x.via.size≤maxLen
theorem Es{α:Type}{l:List α}(h:l.length=20):∃c0 c1 c2 c3 c4 c5 c6 c7 c8 c9 c10 c11 c12 c13 c14 c15 c16 c17 c18 c19:α,l=[c0,c1,c2,c3,c4,c5,c6,c7,c8,c9,c10,c11,c12,c13,c14,c15,c16,c17,c18,c19]:=by
 match l,h with
 | [c0,c1,c2,c3,c4,c5,c6,c7,c8,c9,c10,c11,c12,c13,c14,c15,c16,c17,c18,c19],_=>exact⟨c0,c1,c2,c3,c4,c5,c6,c7,c8,c9,c10,c11,c12,c13,c14,c15,c16,c17,c18,c19,rfl⟩
end Go.Proofs.YtiegohjobhehcaaGreatDoor
