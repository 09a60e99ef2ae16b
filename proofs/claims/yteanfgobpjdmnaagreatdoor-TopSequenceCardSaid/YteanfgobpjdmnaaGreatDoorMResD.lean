/-
  resolve: options, Resolve; for all arguments.
-/
import Derived.Test.YteanfgobpjdmnaaGreatDoorMLaid25
import Derived.Test.YteanfgobpjdmnaaGreatDoorMWide
set_option maxRecDepth 100000
set_option maxHeartbeats 16000000
namespace Go.Proofs.YteanfgobpjdmnaaGreatDoor
open Go.RowKit
set_option linter.unusedVariables false
set_option linter.unusedSimpArgs false
theorem ju (spd bank oalt gr : Int) (w : World) :
 Calls Tryz.prog 23 #[.agg #[.int .i64 spd, .int .i64 bank, .int .i64 oalt, .int .i64 gr]] w fun e w' => e = .returned (.int .i64 (vA spd bank oalt gr)) ∧ Below w.heap.size w w' := by
 have hM := qB w
 go_enter Tryz.func23, Tryz.ntmps23
 go_wp2_with (first | ((with_reducible refine lX ?_); refine mL ?_) | ((with_reducible refine sX ?_); refine mS ?_; clear hM; intro W hM) | ((with_reducible refine bX ?_); refine mB ?_; clear hM; intro g W hM) | ((with_reducible refine zX ?_); refine mB ?_; clear hM; intro g W hM))
 all_goals
  go_ret
  exact ⟨qL (by unfold vA; first | rw [if_pos (by omega)] | rw [if_neg (by omega)]), hM.below⟩
theorem zF (c : Int) (w : World) : Calls Tryz.prog 24 #[.int .i64 c] w fun e w' => e = .returned (.bool (decide (0 ≤ c ∧ c < 129600000))) ∧ w = w' := by
 by_cases h1 : 0 ≤ c
 · by_cases h2 : c < 129600000
   · have e2 : decide (c < 129600000) = true := decide_eq_true h2
     have e3 := hide (decide_eq_true (show 0 ≤ c ∧ c < 129600000 by omega))
     go_enter Tryz.func24, Tryz.ntmps24
     go_wp2_with fail
     all_goals
      go_ret
      first | exact ⟨yR e3.out.symm, rfl⟩ | exact ⟨rfl, rfl⟩
   · have e2 : decide (c < 129600000) = false := decide_eq_false h2
     have e3 := hide (decide_eq_false (show ¬ (0 ≤ c ∧ c < 129600000) by omega))
     go_enter Tryz.func24, Tryz.ntmps24
     go_wp2_with fail
     all_goals
      go_ret
      first | exact ⟨yR e3.out.symm, rfl⟩ | exact ⟨rfl, rfl⟩
 · have e2 : decide (0 ≤ c) = false := decide_eq_false h1
   have e3 := hide (decide_eq_false (show ¬ (0 ≤ c ∧ c < 129600000) by omega))
   go_enter Tryz.func24, Tryz.ntmps24
   go_wp2_with fail
   all_goals
    go_ret
    first | exact ⟨yR e3.out.symm, rfl⟩ | exact ⟨rfl, rfl⟩
structure tL (x : En) : Prop where
 leg : Ct x
 crs : qH x.crs
 ex : qH x.ex
 ey : qH x.ey
theorem tL.tyb {x : En} (h : tL x) : 0 ≤ x.ty := h.leg.ty.1
theorem kO {p : Tk × Int} : p = (p.1, p.2) := rfl
theorem qD {w W : World} {L : List zz} (hM : qQ w W L) (h : jq w) : jq W := fun i n hi => hM.old (h i n hi)
theorem FM {x : En} (h : x.ty = 1) : (x.ty == 1) = true ∧ (x.ty == 2) = false ∧ (x.ty == 3) = false ∧ (x.ty == 4) = false ∧ (x.ty == 5) = false ∧ (x.ty == 6) = false ∧ (x.ty == 7) = false ∧ (x.ty == 8) = false ∧ (x.ty == 9) = false ∧ (x.ty == 10) = false ∧ (x.ty == 11) = false ∧ (x.ty == 12) = false ∧ (x.ty == 13) = false ∧ (x.ty == 14) = false ∧ (x.ty == 15) = false ∧ (x.ty == 16) = false ∧ (x.ty == 17) = false := by rw [h]; decide
theorem FN {x : En} (h : x.ty = 2) : (x.ty == 1) = false ∧ (x.ty == 2) = true ∧ (x.ty == 3) = false ∧ (x.ty == 4) = false ∧ (x.ty == 5) = false ∧ (x.ty == 6) = false ∧ (x.ty == 7) = false ∧ (x.ty == 8) = false ∧ (x.ty == 9) = false ∧ (x.ty == 10) = false ∧ (x.ty == 11) = false ∧ (x.ty == 12) = false ∧ (x.ty == 13) = false ∧ (x.ty == 14) = false ∧ (x.ty == 15) = false ∧ (x.ty == 16) = false ∧ (x.ty == 17) = false := by rw [h]; decide
theorem FP {x : En} (h : x.ty = 3) : (x.ty == 1) = false ∧ (x.ty == 2) = false ∧ (x.ty == 3) = true ∧ (x.ty == 4) = false ∧ (x.ty == 5) = false ∧ (x.ty == 6) = false ∧ (x.ty == 7) = false ∧ (x.ty == 8) = false ∧ (x.ty == 9) = false ∧ (x.ty == 10) = false ∧ (x.ty == 11) = false ∧ (x.ty == 12) = false ∧ (x.ty == 13) = false ∧ (x.ty == 14) = false ∧ (x.ty == 15) = false ∧ (x.ty == 16) = false ∧ (x.ty == 17) = false := by rw [h]; decide
theorem FQ {x : En} (h : x.ty = 4) : (x.ty == 1) = false ∧ (x.ty == 2) = false ∧ (x.ty == 3) = false ∧ (x.ty == 4) = true ∧ (x.ty == 5) = false ∧ (x.ty == 6) = false ∧ (x.ty == 7) = false ∧ (x.ty == 8) = false ∧ (x.ty == 9) = false ∧ (x.ty == 10) = false ∧ (x.ty == 11) = false ∧ (x.ty == 12) = false ∧ (x.ty == 13) = false ∧ (x.ty == 14) = false ∧ (x.ty == 15) = false ∧ (x.ty == 16) = false ∧ (x.ty == 17) = false := by rw [h]; decide
theorem FT {x : En} (h : x.ty = 5) : (x.ty == 1) = false ∧ (x.ty == 2) = false ∧ (x.ty == 3) = false ∧ (x.ty == 4) = false ∧ (x.ty == 5) = true ∧ (x.ty == 6) = false ∧ (x.ty == 7) = false ∧ (x.ty == 8) = false ∧ (x.ty == 9) = false ∧ (x.ty == 10) = false ∧ (x.ty == 11) = false ∧ (x.ty == 12) = false ∧ (x.ty == 13) = false ∧ (x.ty == 14) = false ∧ (x.ty == 15) = false ∧ (x.ty == 16) = false ∧ (x.ty == 17) = false := by rw [h]; decide
theorem FU {x : En} (h : x.ty = 6) : (x.ty == 1) = false ∧ (x.ty == 2) = false ∧ (x.ty == 3) = false ∧ (x.ty == 4) = false ∧ (x.ty == 5) = false ∧ (x.ty == 6) = true ∧ (x.ty == 7) = false ∧ (x.ty == 8) = false ∧ (x.ty == 9) = false ∧ (x.ty == 10) = false ∧ (x.ty == 11) = false ∧ (x.ty == 12) = false ∧ (x.ty == 13) = false ∧ (x.ty == 14) = false ∧ (x.ty == 15) = false ∧ (x.ty == 16) = false ∧ (x.ty == 17) = false := by rw [h]; decide
theorem FV {x : En} (h : x.ty = 7) : (x.ty == 1) = false ∧ (x.ty == 2) = false ∧ (x.ty == 3) = false ∧ (x.ty == 4) = false ∧ (x.ty == 5) = false ∧ (x.ty == 6) = false ∧ (x.ty == 7) = true ∧ (x.ty == 8) = false ∧ (x.ty == 9) = false ∧ (x.ty == 10) = false ∧ (x.ty == 11) = false ∧ (x.ty == 12) = false ∧ (x.ty == 13) = false ∧ (x.ty == 14) = false ∧ (x.ty == 15) = false ∧ (x.ty == 16) = false ∧ (x.ty == 17) = false := by rw [h]; decide
theorem FW {x : En} (h : x.ty = 8) : (x.ty == 1) = false ∧ (x.ty == 2) = false ∧ (x.ty == 3) = false ∧ (x.ty == 4) = false ∧ (x.ty == 5) = false ∧ (x.ty == 6) = false ∧ (x.ty == 7) = false ∧ (x.ty == 8) = true ∧ (x.ty == 9) = false ∧ (x.ty == 10) = false ∧ (x.ty == 11) = false ∧ (x.ty == 12) = false ∧ (x.ty == 13) = false ∧ (x.ty == 14) = false ∧ (x.ty == 15) = false ∧ (x.ty == 16) = false ∧ (x.ty == 17) = false := by rw [h]; decide
theorem FX {x : En} (h : x.ty = 9) : (x.ty == 1) = false ∧ (x.ty == 2) = false ∧ (x.ty == 3) = false ∧ (x.ty == 4) = false ∧ (x.ty == 5) = false ∧ (x.ty == 6) = false ∧ (x.ty == 7) = false ∧ (x.ty == 8) = false ∧ (x.ty == 9) = true ∧ (x.ty == 10) = false ∧ (x.ty == 11) = false ∧ (x.ty == 12) = false ∧ (x.ty == 13) = false ∧ (x.ty == 14) = false ∧ (x.ty == 15) = false ∧ (x.ty == 16) = false ∧ (x.ty == 17) = false := by rw [h]; decide
theorem CW {x : En} (h : x.ty = 10) : (x.ty == 1) = false ∧ (x.ty == 2) = false ∧ (x.ty == 3) = false ∧ (x.ty == 4) = false ∧ (x.ty == 5) = false ∧ (x.ty == 6) = false ∧ (x.ty == 7) = false ∧ (x.ty == 8) = false ∧ (x.ty == 9) = false ∧ (x.ty == 10) = true ∧ (x.ty == 11) = false ∧ (x.ty == 12) = false ∧ (x.ty == 13) = false ∧ (x.ty == 14) = false ∧ (x.ty == 15) = false ∧ (x.ty == 16) = false ∧ (x.ty == 17) = false := by rw [h]; decide
theorem CZ {x : En} (h : x.ty = 11) : (x.ty == 1) = false ∧ (x.ty == 2) = false ∧ (x.ty == 3) = false ∧ (x.ty == 4) = false ∧ (x.ty == 5) = false ∧ (x.ty == 6) = false ∧ (x.ty == 7) = false ∧ (x.ty == 8) = false ∧ (x.ty == 9) = false ∧ (x.ty == 10) = false ∧ (x.ty == 11) = true ∧ (x.ty == 12) = false ∧ (x.ty == 13) = false ∧ (x.ty == 14) = false ∧ (x.ty == 15) = false ∧ (x.ty == 16) = false ∧ (x.ty == 17) = false := by rw [h]; decide
theorem Fa {x : En} (h : x.ty = 12) : (x.ty == 1) = false ∧ (x.ty == 2) = false ∧ (x.ty == 3) = false ∧ (x.ty == 4) = false ∧ (x.ty == 5) = false ∧ (x.ty == 6) = false ∧ (x.ty == 7) = false ∧ (x.ty == 8) = false ∧ (x.ty == 9) = false ∧ (x.ty == 10) = false ∧ (x.ty == 11) = false ∧ (x.ty == 12) = true ∧ (x.ty == 13) = false ∧ (x.ty == 14) = false ∧ (x.ty == 15) = false ∧ (x.ty == 16) = false ∧ (x.ty == 17) = false := by rw [h]; decide
theorem Fb {x : En} (h : x.ty = 13) : (x.ty == 1) = false ∧ (x.ty == 2) = false ∧ (x.ty == 3) = false ∧ (x.ty == 4) = false ∧ (x.ty == 5) = false ∧ (x.ty == 6) = false ∧ (x.ty == 7) = false ∧ (x.ty == 8) = false ∧ (x.ty == 9) = false ∧ (x.ty == 10) = false ∧ (x.ty == 11) = false ∧ (x.ty == 12) = false ∧ (x.ty == 13) = true ∧ (x.ty == 14) = false ∧ (x.ty == 15) = false ∧ (x.ty == 16) = false ∧ (x.ty == 17) = false := by rw [h]; decide
theorem Fc {x : En} (h : x.ty = 14) : (x.ty == 1) = false ∧ (x.ty == 2) = false ∧ (x.ty == 3) = false ∧ (x.ty == 4) = false ∧ (x.ty == 5) = false ∧ (x.ty == 6) = false ∧ (x.ty == 7) = false ∧ (x.ty == 8) = false ∧ (x.ty == 9) = false ∧ (x.ty == 10) = false ∧ (x.ty == 11) = false ∧ (x.ty == 12) = false ∧ (x.ty == 13) = false ∧ (x.ty == 14) = true ∧ (x.ty == 15) = false ∧ (x.ty == 16) = false ∧ (x.ty == 17) = false := by rw [h]; decide
theorem Fe {x : En} (h : x.ty = 15) : (x.ty == 1) = false ∧ (x.ty == 2) = false ∧ (x.ty == 3) = false ∧ (x.ty == 4) = false ∧ (x.ty == 5) = false ∧ (x.ty == 6) = false ∧ (x.ty == 7) = false ∧ (x.ty == 8) = false ∧ (x.ty == 9) = false ∧ (x.ty == 10) = false ∧ (x.ty == 11) = false ∧ (x.ty == 12) = false ∧ (x.ty == 13) = false ∧ (x.ty == 14) = false ∧ (x.ty == 15) = true ∧ (x.ty == 16) = false ∧ (x.ty == 17) = false := by rw [h]; decide
theorem Ff {x : En} (h : x.ty = 16) : (x.ty == 1) = false ∧ (x.ty == 2) = false ∧ (x.ty == 3) = false ∧ (x.ty == 4) = false ∧ (x.ty == 5) = false ∧ (x.ty == 6) = false ∧ (x.ty == 7) = false ∧ (x.ty == 8) = false ∧ (x.ty == 9) = false ∧ (x.ty == 10) = false ∧ (x.ty == 11) = false ∧ (x.ty == 12) = false ∧ (x.ty == 13) = false ∧ (x.ty == 14) = false ∧ (x.ty == 15) = false ∧ (x.ty == 16) = true ∧ (x.ty == 17) = false := by rw [h]; decide
theorem Fg {x : En} (h : x.ty = 17) : (x.ty == 1) = false ∧ (x.ty == 2) = false ∧ (x.ty == 3) = false ∧ (x.ty == 4) = false ∧ (x.ty == 5) = false ∧ (x.ty == 6) = false ∧ (x.ty == 7) = false ∧ (x.ty == 8) = false ∧ (x.ty == 9) = false ∧ (x.ty == 10) = false ∧ (x.ty == 11) = false ∧ (x.ty == 12) = false ∧ (x.ty == 13) = false ∧ (x.ty == 14) = false ∧ (x.ty == 15) = false ∧ (x.ty == 16) = false ∧ (x.ty == 17) = true := by rw [h]; decide
open Go.ChangeShapes Go.WideShapes Go.ChangeAt Go.RowKit
structure pK (x : En) : Prop where
 w : tL x
 dst : qH x.dst
 rad : qH x.rad
 tht : qH x.tht
 lo : qH x.lo
 hi : qH x.hi
 spd : qH x.spd
 rnp : qH x.rnp
 mx : qH x.mx
 my : qH x.my
 sec : 0 ≤ x.sec ∧ x.sec ≤ 255
 via : x.via.size ≤ maxLen
theorem Fh {α : Type} {l : List α} (h : l.length = 20) : ∃ c0 c1 c2 c3 c4 c5 c6 c7 c8 c9 c10 c11 c12 c13 c14 c15 c16 c17 c18 c19 : α, l = [c0, c1, c2, c3, c4, c5, c6, c7, c8, c9, c10, c11, c12, c13, c14, c15, c16, c17, c18, c19] := by
 match l, h with
 | [c0, c1, c2, c3, c4, c5, c6, c7, c8, c9, c10, c11, c12, c13, c14, c15, c16, c17, c18, c19], _ => exact ⟨c0, c1, c2, c3, c4, c5, c6, c7, c8, c9, c10, c11, c12, c13, c14, c15, c16, c17, c18, c19, rfl⟩
end Go.Proofs.YteanfgobpjdmnaaGreatDoor
