/-
  The walks of the reference's Check for all paths, of its Start.
-/
import Derived.Test.YtdfkkknkiioghaaGreatMSeqA
import Derived.Test.YtdfkkknkiioghaaGreatMPathR
namespace Go.Proofs.YtdfkkknkiioghaaGreat
open Go.RowKit
set_option linter.unusedVariables false
set_option linter.unusedSimpArgs false
set_option maxHeartbeats 2000000 in
theorem rchk_none (S : Option Addr) (l : List El) (hl : l = []) (cap : Nat) (len : Int) (w : World) :
    Calls Tryz.prog 15 #[.agg #[.slice S l.length cap, .int .i64 len]] w fun e w' => e = .returned (.int .i64 (chkF l len)) ∧ Below w.heap.size w w' := by
  have HR : Hid (chkF l len = if len = 0 then 0 else 4) := hide (by rw [hl]; unfold chkF chkG; simp)
  have hn : l.length = 0 := by rw [hl]; rfl
  generalize chkF l len = R at *
  generalize l.length = m at *
  clear hl
  subst hn
  go_enter Tryz.func15, Tryz.ntmps15
  go_wp2_with fail
  go_loopw [3, 14] (fun a i wr => a = .int .i64 0 ∧ i = .int .i64 0 ∧ wr.cell? ⟨w.heap.size, 1, none⟩ = some (.int .i64 len) ∧ Below w.heap.size w wr) (fun _ _ _ => 0)
  case atStart => exact ⟨rfl, rfl, by simp [go_sem], by (repeat (with_reducible (first | assumption | exact Below.refl _ _ | refine Below.drew ?_ | refine below_drewN ?_ _ | refine below_set ?_ (by simp; try omega) _ | refine below_alloc ?_ (Nat.le_refl _) _ | refine below_sub (by assumption) ?_)))⟩
  case round =>
    obtain ⟨rfl, rfl, q1, K⟩ := hrel
    have zq : w.heap.size < wr.heap.size := World.block_lt_of_cell? _ _ q1
    by_cases hs : len = 0
    · obtain rfl : R = 0 := by rw [HR.out, if_pos hs]
      subst hs
      go_wp2_with fail
      go_ret
      exact ⟨rfl, by (repeat (with_reducible (first | assumption | exact Below.refl _ _ | refine Below.drew ?_ | refine below_drewN ?_ _ | refine below_set ?_ (by simp; try omega) _ | refine below_alloc ?_ (Nat.le_refl _) _ | refine below_sub (by assumption) ?_)))⟩
    · obtain rfl : R = 4 := by rw [HR.out, if_neg hs]
      have hs2 : (len == 0) = false := beq_eq_false_iff_ne.2 hs
      go_wp2_with fail
      go_ret
      exact ⟨rfl, by (repeat (with_reducible (first | assumption | exact Below.refl _ _ | refine Below.drew ?_ | refine below_drewN ?_ _ | refine below_set ?_ (by simp; try omega) _ | refine below_alloc ?_ (Nat.le_refl _) _ | refine below_sub (by assumption) ?_)))⟩
theorem rchk_any (S : Option Addr) (l : List El) (cap : Nat) (len : Int) (w : World) (h2 : l.length ≤ 9223372036854775807) (hp : Hid (pathAt w S l)) :
    Calls Tryz.prog 15 #[.agg #[.slice S l.length cap, .int .i64 len]] w fun e w' => e = .returned (.int .i64 (chkF l len)) ∧ Below w.heap.size w w' := by
  by_cases h5 : 500 < l.length
  · exact rchk_many S l cap len w h5 h2
  · by_cases h0 : 0 < l.length
    · obtain ⟨b, o, rfl⟩ := pathAt_some hp.out h0
      exact rchk_few b o l cap len w h0 (by omega) hp
    · exact rchk_none S l (List.length_eq_zero_iff.1 (by omega)) cap len w
end Go.Proofs.YtdfkkknkiioghaaGreat

