/-
  resolve: options, Resolve; for all arguments.
-/
import Derived.Test.YtbhpklpkcgcmfaaGreatDoorMLaid25
import Derived.Test.YtbhpklpkcgcmfaaGreatDoorMWide
set_option maxRecDepth 100000
set_option maxHeartbeats 16000000
namespace Go.Proofs.YtbhpklpkcgcmfaaGreatDoor
open Go.RowKit
set_option linter.unusedVariables false
set_option linter.unusedSimpArgs false
theorem opts_any (spd bank oalt gr : Int) (w : World) :
 Calls Tryz.prog 50 #[.agg #[.int .i64 spd, .int .i64 bank, .int .i64 oalt, .int .i64 gr]] w fun e w' => e = .returned (.int .i64 (optE spd bank oalt gr)) ∧ Below w.heap.size w w' := by
 have hM := mem_nil w
 go_enter Tryz.func50, Tryz.ntmps50
 go_wp2_with (first | ((with_reducible refine lX ?_); first | refine aL hM rfl rfl ?_ | refine aM hM rfl rfl ?_) | ((with_reducible refine sX ?_); refine aS hM rfl rfl rfl ?_; clear hM; intro W hM) | ((with_reducible refine bX ?_); refine aB hM rfl rfl ?_; clear hM; intro g W hM) | ((with_reducible refine zX ?_); refine aN hM rfl rfl ?_; clear hM; intro g W hM))
 all_goals
  go_ret
  exact ⟨ret_int (by unfold optE; first | rw [if_pos (by omega)] | rw [if_neg (by omega)]), hM.below⟩
theorem rcourse_ok (c : Int) (w : World) : Calls Tryz.prog 51 #[.int .i64 c] w fun e w' => e = .returned (.bool (decide (0 ≤ c ∧ c < 129600000))) ∧ w = w' := by
 by_cases h1 : 0 ≤ c
 · by_cases h2 : c < 129600000
   · have e2 : decide (c < 129600000) = true := decide_eq_true h2
     have e3 := hide (decide_eq_true (show 0 ≤ c ∧ c < 129600000 by omega))
     go_enter Tryz.func51, Tryz.ntmps51
     go_wp2_with fail
     all_goals
      go_ret
      first | exact ⟨ret_b e3.out.symm, rfl⟩ | exact ⟨rfl, rfl⟩
   · have e2 : decide (c < 129600000) = false := decide_eq_false h2
     have e3 := hide (decide_eq_false (show ¬ (0 ≤ c ∧ c < 129600000) by omega))
     go_enter Tryz.func51, Tryz.ntmps51
     go_wp2_with fail
     all_goals
      go_ret
      first | exact ⟨ret_b e3.out.symm, rfl⟩ | exact ⟨rfl, rfl⟩
 · have e2 : decide (0 ≤ c) = false := decide_eq_false h1
   have e3 := hide (decide_eq_false (show ¬ (0 ≤ c ∧ c < 129600000) by omega))
   go_enter Tryz.func51, Tryz.ntmps51
   go_wp2_with fail
   all_goals
    go_ret
    first | exact ⟨ret_b e3.out.symm, rfl⟩ | exact ⟨rfl, rfl⟩
structure EnW (x : En) : Prop where
 leg : LegW x
 crs : I64 x.crs
 ex : I64 x.ex
 ey : I64 x.ey
theorem EnW.tyb {x : En} (h : EnW x) : 0 ≤ x.ty := h.leg.ty.1
theorem pair_eta {p : Tk × Int} : p = (p.1, p.2) := rfl
theorem usesAt_mem {w W : World} {L : List Box} (hM : Mem w W L) (h : usesAt w) : usesAt W := fun i n hi => hM.old (h i n hi)
theorem tyq1 {x : En} (h : x.ty = 1) : (x.ty == 1) = true ∧ (x.ty == 2) = false ∧ (x.ty == 3) = false ∧ (x.ty == 4) = false ∧ (x.ty == 5) = false ∧ (x.ty == 6) = false ∧ (x.ty == 7) = false ∧ (x.ty == 8) = false ∧ (x.ty == 9) = false ∧ (x.ty == 10) = false ∧ (x.ty == 11) = false ∧ (x.ty == 12) = false ∧ (x.ty == 13) = false ∧ (x.ty == 14) = false ∧ (x.ty == 15) = false ∧ (x.ty == 16) = false ∧ (x.ty == 17) = false := by rw [h]; decide
theorem tyq2 {x : En} (h : x.ty = 2) : (x.ty == 1) = false ∧ (x.ty == 2) = true ∧ (x.ty == 3) = false ∧ (x.ty == 4) = false ∧ (x.ty == 5) = false ∧ (x.ty == 6) = false ∧ (x.ty == 7) = false ∧ (x.ty == 8) = false ∧ (x.ty == 9) = false ∧ (x.ty == 10) = false ∧ (x.ty == 11) = false ∧ (x.ty == 12) = false ∧ (x.ty == 13) = false ∧ (x.ty == 14) = false ∧ (x.ty == 15) = false ∧ (x.ty == 16) = false ∧ (x.ty == 17) = false := by rw [h]; decide
theorem tyq3 {x : En} (h : x.ty = 3) : (x.ty == 1) = false ∧ (x.ty == 2) = false ∧ (x.ty == 3) = true ∧ (x.ty == 4) = false ∧ (x.ty == 5) = false ∧ (x.ty == 6) = false ∧ (x.ty == 7) = false ∧ (x.ty == 8) = false ∧ (x.ty == 9) = false ∧ (x.ty == 10) = false ∧ (x.ty == 11) = false ∧ (x.ty == 12) = false ∧ (x.ty == 13) = false ∧ (x.ty == 14) = false ∧ (x.ty == 15) = false ∧ (x.ty == 16) = false ∧ (x.ty == 17) = false := by rw [h]; decide
theorem tyq4 {x : En} (h : x.ty = 4) : (x.ty == 1) = false ∧ (x.ty == 2) = false ∧ (x.ty == 3) = false ∧ (x.ty == 4) = true ∧ (x.ty == 5) = false ∧ (x.ty == 6) = false ∧ (x.ty == 7) = false ∧ (x.ty == 8) = false ∧ (x.ty == 9) = false ∧ (x.ty == 10) = false ∧ (x.ty == 11) = false ∧ (x.ty == 12) = false ∧ (x.ty == 13) = false ∧ (x.ty == 14) = false ∧ (x.ty == 15) = false ∧ (x.ty == 16) = false ∧ (x.ty == 17) = false := by rw [h]; decide
theorem tyq5 {x : En} (h : x.ty = 5) : (x.ty == 1) = false ∧ (x.ty == 2) = false ∧ (x.ty == 3) = false ∧ (x.ty == 4) = false ∧ (x.ty == 5) = true ∧ (x.ty == 6) = false ∧ (x.ty == 7) = false ∧ (x.ty == 8) = false ∧ (x.ty == 9) = false ∧ (x.ty == 10) = false ∧ (x.ty == 11) = false ∧ (x.ty == 12) = false ∧ (x.ty == 13) = false ∧ (x.ty == 14) = false ∧ (x.ty == 15) = false ∧ (x.ty == 16) = false ∧ (x.ty == 17) = false := by rw [h]; decide
theorem tyq6 {x : En} (h : x.ty = 6) : (x.ty == 1) = false ∧ (x.ty == 2) = false ∧ (x.ty == 3) = false ∧ (x.ty == 4) = false ∧ (x.ty == 5) = false ∧ (x.ty == 6) = true ∧ (x.ty == 7) = false ∧ (x.ty == 8) = false ∧ (x.ty == 9) = false ∧ (x.ty == 10) = false ∧ (x.ty == 11) = false ∧ (x.ty == 12) = false ∧ (x.ty == 13) = false ∧ (x.ty == 14) = false ∧ (x.ty == 15) = false ∧ (x.ty == 16) = false ∧ (x.ty == 17) = false := by rw [h]; decide
theorem tyq7 {x : En} (h : x.ty = 7) : (x.ty == 1) = false ∧ (x.ty == 2) = false ∧ (x.ty == 3) = false ∧ (x.ty == 4) = false ∧ (x.ty == 5) = false ∧ (x.ty == 6) = false ∧ (x.ty == 7) = true ∧ (x.ty == 8) = false ∧ (x.ty == 9) = false ∧ (x.ty == 10) = false ∧ (x.ty == 11) = false ∧ (x.ty == 12) = false ∧ (x.ty == 13) = false ∧ (x.ty == 14) = false ∧ (x.ty == 15) = false ∧ (x.ty == 16) = false ∧ (x.ty == 17) = false := by rw [h]; decide
theorem tyq8 {x : En} (h : x.ty = 8) : (x.ty == 1) = false ∧ (x.ty == 2) = false ∧ (x.ty == 3) = false ∧ (x.ty == 4) = false ∧ (x.ty == 5) = false ∧ (x.ty == 6) = false ∧ (x.ty == 7) = false ∧ (x.ty == 8) = true ∧ (x.ty == 9) = false ∧ (x.ty == 10) = false ∧ (x.ty == 11) = false ∧ (x.ty == 12) = false ∧ (x.ty == 13) = false ∧ (x.ty == 14) = false ∧ (x.ty == 15) = false ∧ (x.ty == 16) = false ∧ (x.ty == 17) = false := by rw [h]; decide
theorem tyq9 {x : En} (h : x.ty = 9) : (x.ty == 1) = false ∧ (x.ty == 2) = false ∧ (x.ty == 3) = false ∧ (x.ty == 4) = false ∧ (x.ty == 5) = false ∧ (x.ty == 6) = false ∧ (x.ty == 7) = false ∧ (x.ty == 8) = false ∧ (x.ty == 9) = true ∧ (x.ty == 10) = false ∧ (x.ty == 11) = false ∧ (x.ty == 12) = false ∧ (x.ty == 13) = false ∧ (x.ty == 14) = false ∧ (x.ty == 15) = false ∧ (x.ty == 16) = false ∧ (x.ty == 17) = false := by rw [h]; decide
theorem tyq10 {x : En} (h : x.ty = 10) : (x.ty == 1) = false ∧ (x.ty == 2) = false ∧ (x.ty == 3) = false ∧ (x.ty == 4) = false ∧ (x.ty == 5) = false ∧ (x.ty == 6) = false ∧ (x.ty == 7) = false ∧ (x.ty == 8) = false ∧ (x.ty == 9) = false ∧ (x.ty == 10) = true ∧ (x.ty == 11) = false ∧ (x.ty == 12) = false ∧ (x.ty == 13) = false ∧ (x.ty == 14) = false ∧ (x.ty == 15) = false ∧ (x.ty == 16) = false ∧ (x.ty == 17) = false := by rw [h]; decide
theorem tyq11 {x : En} (h : x.ty = 11) : (x.ty == 1) = false ∧ (x.ty == 2) = false ∧ (x.ty == 3) = false ∧ (x.ty == 4) = false ∧ (x.ty == 5) = false ∧ (x.ty == 6) = false ∧ (x.ty == 7) = false ∧ (x.ty == 8) = false ∧ (x.ty == 9) = false ∧ (x.ty == 10) = false ∧ (x.ty == 11) = true ∧ (x.ty == 12) = false ∧ (x.ty == 13) = false ∧ (x.ty == 14) = false ∧ (x.ty == 15) = false ∧ (x.ty == 16) = false ∧ (x.ty == 17) = false := by rw [h]; decide
theorem tyq12 {x : En} (h : x.ty = 12) : (x.ty == 1) = false ∧ (x.ty == 2) = false ∧ (x.ty == 3) = false ∧ (x.ty == 4) = false ∧ (x.ty == 5) = false ∧ (x.ty == 6) = false ∧ (x.ty == 7) = false ∧ (x.ty == 8) = false ∧ (x.ty == 9) = false ∧ (x.ty == 10) = false ∧ (x.ty == 11) = false ∧ (x.ty == 12) = true ∧ (x.ty == 13) = false ∧ (x.ty == 14) = false ∧ (x.ty == 15) = false ∧ (x.ty == 16) = false ∧ (x.ty == 17) = false := by rw [h]; decide
theorem tyq13 {x : En} (h : x.ty = 13) : (x.ty == 1) = false ∧ (x.ty == 2) = false ∧ (x.ty == 3) = false ∧ (x.ty == 4) = false ∧ (x.ty == 5) = false ∧ (x.ty == 6) = false ∧ (x.ty == 7) = false ∧ (x.ty == 8) = false ∧ (x.ty == 9) = false ∧ (x.ty == 10) = false ∧ (x.ty == 11) = false ∧ (x.ty == 12) = false ∧ (x.ty == 13) = true ∧ (x.ty == 14) = false ∧ (x.ty == 15) = false ∧ (x.ty == 16) = false ∧ (x.ty == 17) = false := by rw [h]; decide
theorem tyq14 {x : En} (h : x.ty = 14) : (x.ty == 1) = false ∧ (x.ty == 2) = false ∧ (x.ty == 3) = false ∧ (x.ty == 4) = false ∧ (x.ty == 5) = false ∧ (x.ty == 6) = false ∧ (x.ty == 7) = false ∧ (x.ty == 8) = false ∧ (x.ty == 9) = false ∧ (x.ty == 10) = false ∧ (x.ty == 11) = false ∧ (x.ty == 12) = false ∧ (x.ty == 13) = false ∧ (x.ty == 14) = true ∧ (x.ty == 15) = false ∧ (x.ty == 16) = false ∧ (x.ty == 17) = false := by rw [h]; decide
theorem tyq15 {x : En} (h : x.ty = 15) : (x.ty == 1) = false ∧ (x.ty == 2) = false ∧ (x.ty == 3) = false ∧ (x.ty == 4) = false ∧ (x.ty == 5) = false ∧ (x.ty == 6) = false ∧ (x.ty == 7) = false ∧ (x.ty == 8) = false ∧ (x.ty == 9) = false ∧ (x.ty == 10) = false ∧ (x.ty == 11) = false ∧ (x.ty == 12) = false ∧ (x.ty == 13) = false ∧ (x.ty == 14) = false ∧ (x.ty == 15) = true ∧ (x.ty == 16) = false ∧ (x.ty == 17) = false := by rw [h]; decide
theorem tyq16 {x : En} (h : x.ty = 16) : (x.ty == 1) = false ∧ (x.ty == 2) = false ∧ (x.ty == 3) = false ∧ (x.ty == 4) = false ∧ (x.ty == 5) = false ∧ (x.ty == 6) = false ∧ (x.ty == 7) = false ∧ (x.ty == 8) = false ∧ (x.ty == 9) = false ∧ (x.ty == 10) = false ∧ (x.ty == 11) = false ∧ (x.ty == 12) = false ∧ (x.ty == 13) = false ∧ (x.ty == 14) = false ∧ (x.ty == 15) = false ∧ (x.ty == 16) = true ∧ (x.ty == 17) = false := by rw [h]; decide
theorem tyq17 {x : En} (h : x.ty = 17) : (x.ty == 1) = false ∧ (x.ty == 2) = false ∧ (x.ty == 3) = false ∧ (x.ty == 4) = false ∧ (x.ty == 5) = false ∧ (x.ty == 6) = false ∧ (x.ty == 7) = false ∧ (x.ty == 8) = false ∧ (x.ty == 9) = false ∧ (x.ty == 10) = false ∧ (x.ty == 11) = false ∧ (x.ty == 12) = false ∧ (x.ty == 13) = false ∧ (x.ty == 14) = false ∧ (x.ty == 15) = false ∧ (x.ty == 16) = false ∧ (x.ty == 17) = true := by rw [h]; decide
end Go.Proofs.YtbhpklpkcgcmfaaGreatDoor
/-
  A law's parameter that is an entry of a plan: its cells, out of what the row's reading says.
-/
namespace Go.Proofs.YtbhpklpkcgcmfaaGreatDoor
open Go.ChangeShapes Go.WideShapes Go.ChangeAt Go.RowKit
set_option linter.unusedVariables false
structure EnX (x : En) : Prop where
 w : EnW x
 dst : I64 x.dst
 rad : I64 x.rad
 tht : I64 x.tht
 lo : I64 x.lo
 hi : I64 x.hi
 spd : I64 x.spd
 rnp : I64 x.rnp
 mx : I64 x.mx
 my : I64 x.my
 sec : 0 ≤ x.sec ∧ x.sec ≤ 255
 via : x.via.size ≤ maxLen
theorem lst20 {α : Type} {l : List α} (h : l.length = 20) : ∃ c0 c1 c2 c3 c4 c5 c6 c7 c8 c9 c10 c11 c12 c13 c14 c15 c16 c17 c18 c19 : α, l = [c0, c1, c2, c3, c4, c5, c6, c7, c8, c9, c10, c11, c12, c13, c14, c15, c16, c17, c18, c19] := by
 match l, h with
 | [c0, c1, c2, c3, c4, c5, c6, c7, c8, c9, c10, c11, c12, c13, c14, c15, c16, c17, c18, c19], _ => exact ⟨c0, c1, c2, c3, c4, c5, c6, c7, c8, c9, c10, c11, c12, c13, c14, c15, c16, c17, c18, c19, rfl⟩
end Go.Proofs.YtbhpklpkcgcmfaaGreatDoor
