/-
  The examples of chapter 25.
-/
import Derived.Test.YtjjdojokkmfbmaaGreatDoorMResF
namespace Go.Proofs.YtjjdojokkmfbmaaGreatDoor
open Go.RowKit
set_option linter.unusedVariables false
set_option linter.unusedSimpArgs false
def tfE : En := ⟨false, 2, ⟨#[65, 47, 48, 48]⟩, ⟨#[]⟩, 0, false, 0, 0, 0, 0, -200000, 6000000, 0, 0, 0, 6000, 0, 0, 2, ⟨#[]⟩⟩
def caE : En := ⟨false, 7, ⟨#[]⟩, ⟨#[]⟩, 0, false, 32400000, 0, 0, 0, 300000, 6000000, 0, 0, 0, 0, 0, 0, 2, ⟨#[]⟩⟩
theorem tfW : EnW tfE := ⟨⟨by decide, by decide, by decide, by decide⟩, by unfold I64; decide, by unfold I64; decide, by unfold I64; decide⟩
theorem caW : EnW caE := ⟨⟨by decide, by decide, by decide, by decide⟩, by unfold I64; decide, by unfold I64; decide, by unfold I64; decide⟩
theorem res_leg {fx fy c alt : Int} {x y : En} {spd bank oalt gr : Int} (h1 : optE spd bank oalt gr = 0) (h2 : x.gap = false) (h3 : legF x = 0) (h4 : (vldB fx fy && vldB x.ex x.ey && vldB x.mx x.my) = true) (h5 : ¬ (c < 0 ∨ c ≥ 129600000 ∨ alt < -200000 ∨ alt > 6000000)) : resolveT fx fy c alt x y spd bank oalt gr = legT fx fy c alt x y gr := by
  unfold resolveT
  rw [if_neg (by rw [h1]; simp), if_neg (by rw [h2]; simp), if_neg (by rw [h3]; simp), if_neg (by rw [h4]; simp), if_neg h5]
theorem aw25_c : courseF 0 0 0 6000 = (0, 0) := by
  unfold courseF
  rw [show (0 : Int) - 0 = 0 from rfl, show (6000 : Int) - 0 = 6000 from rfl, atan_ahead 6000 (by decide)]
  decide +kernel
theorem aw25_d : distF 0 0 0 6000 = 6000 := dist_of (by decide +kernel) 6000 (by decide +kernel) (by decide +kernel)
theorem aw25_1 : resolveT 0 0 32400000 100000 tfE caE 250 2500 100000 20000 = (tkS 1 0 0 0 6000 0 6000, 0) := by
  rw [res_leg (by decide +kernel) rfl (by decide +kernel) (by decide +kernel) (by decide)]
  have e : legT 0 0 32400000 100000 tfE caE 20000 = (straightF 0 0 tfE.ex tfE.ey 32400000, 0) := by
    unfold legT
    rw [if_neg (by decide), if_pos (by decide)]
  rw [e, show tfE.ex = 0 from rfl, show tfE.ey = 6000 from rfl]
  unfold straightF
  rw [if_neg (by decide), aw25_c, aw25_d]
theorem aw25_2 : resolveT 0 0 0 100000 caE tfE 250 2500 100000 20000 = (tkS 1 0 0 60000 0 32400000 60000, 0) := by
  rw [res_leg (by decide +kernel) rfl (by decide +kernel) (by decide +kernel) (by decide)]
  have e : legT 0 0 0 100000 caE tfE 20000 = climbT 0 0 100000 caE 20000 := by
    unfold legT
    rw [if_neg (by decide), if_neg (by decide), if_neg (by decide), if_neg (by decide), if_pos (by decide)]
  rw [e]
  unfold climbT
  rw [show climbN 100000 caE.lo 20000 = 60000 by decide +kernel, if_neg (by decide)]
  unfold rayT
  rw [show rayF 0 0 caE.crs 60000 = (60000, 0, 0) by decide +kernel]
  rfl
theorem usual_cells {w : World} (h : usualAt w) : ∀ (j : Nat) (v : Value), ([.int .i64 250, .int .i64 2500, .int .i64 100000, .int .i64 20000] : List Value)[j]? = some v → w.cell? ⟨0, 0 + j, none⟩ = some v := by
  intro j v hj
  rw [Nat.zero_add]
  match j, hj with
  | 0, hj => simp at hj; rw [← hj]; exact h 0 250 rfl
  | 1, hj => simp at hj; rw [← hj]; exact h 1 2500 rfl
  | 2, hj => simp at hj; rw [← hj]; exact h 2 100000 rfl
  | 3, hj => simp at hj; rw [← hj]; exact h 3 20000 rfl
  | n + 4, hj => simp at hj
set_option maxRecDepth 100000 in
set_option maxHeartbeats 8000000 in
theorem awake25_any (w : World) (hu : Hid (usesAt w)) (hq : Hid (usualAt w)) : Calls Tryz.prog 11 #[] w fun e w' => e = .returned (.bool true) ∧ Below w.heap.size w w' := by
  have A1 : ∀ W, Hid (usesAt W) → Calls Tryz.prog 14 #[.agg #[.int .i64 0, .int .i64 0], .int .i64 32400000, .int .i64 100000, .agg #[.bool false, .int .u8 2, .string ⟨#[65, 47, 48, 48]⟩, .string ⟨#[]⟩, .int .u8 0, .bool false, .int .i64 0, .int .i64 0, .int .i64 0, .int .i64 0, .int .i64 (-200000), .int .i64 6000000, .int .i64 0, .int .i64 0, .int .i64 0, .int .i64 6000, .int .i64 0, .int .i64 0, .int .u8 2, .string ⟨#[]⟩], .agg #[.bool false, .int .u8 7, .string ⟨#[]⟩, .string ⟨#[]⟩, .int .u8 0, .bool false, .int .i64 32400000, .int .i64 0, .int .i64 0, .int .i64 0, .int .i64 300000, .int .i64 6000000, .int .i64 0, .int .i64 0, .int .i64 0, .int .i64 0, .int .i64 0, .int .i64 0, .int .u8 2, .string ⟨#[]⟩], .agg #[.int .i64 250, .int .i64 2500, .int .i64 100000, .int .i64 20000]] W fun e w' => e = .returned (.tuple #[.agg #[.int .u8 1, .int .i64 0, .int .i64 0, .int .i64 0, .int .i64 6000, .int .i64 0, .int .i64 0, .int .i64 0, .int .i64 0, .int .i64 0, .int .i64 0, .int .i64 0, .int .i64 6000, .int .i64 0, .bool false], .int .i64 0]) ∧ Below W.heap.size W w' := fun W hW => by
    have h := resolve_any 0 0 32400000 100000 tfE caE 250 2500 100000 20000 tfW caW (by unfold I64; decide) (by unfold I64; decide) W hW
    rw [aw25_1] at h
    exact h
  have A2 : ∀ W, Hid (usesAt W) → Calls Tryz.prog 14 #[.agg #[.int .i64 0, .int .i64 0], .int .i64 0, .int .i64 100000, .agg #[.bool false, .int .u8 7, .string ⟨#[]⟩, .string ⟨#[]⟩, .int .u8 0, .bool false, .int .i64 32400000, .int .i64 0, .int .i64 0, .int .i64 0, .int .i64 300000, .int .i64 6000000, .int .i64 0, .int .i64 0, .int .i64 0, .int .i64 0, .int .i64 0, .int .i64 0, .int .u8 2, .string ⟨#[]⟩], .agg #[.bool false, .int .u8 2, .string ⟨#[65, 47, 48, 48]⟩, .string ⟨#[]⟩, .int .u8 0, .bool false, .int .i64 0, .int .i64 0, .int .i64 0, .int .i64 0, .int .i64 (-200000), .int .i64 6000000, .int .i64 0, .int .i64 0, .int .i64 0, .int .i64 6000, .int .i64 0, .int .i64 0, .int .u8 2, .string ⟨#[]⟩], .agg #[.int .i64 250, .int .i64 2500, .int .i64 100000, .int .i64 20000]] W fun e w' => e = .returned (.tuple #[.agg #[.int .u8 1, .int .i64 0, .int .i64 0, .int .i64 60000, .int .i64 0, .int .i64 0, .int .i64 0, .int .i64 0, .int .i64 0, .int .i64 0, .int .i64 32400000, .int .i64 32400000, .int .i64 60000, .int .i64 0, .bool false], .int .i64 0]) ∧ Below W.heap.size W w' := fun W hW => by
    have h := resolve_any 0 0 0 100000 caE tfE 250 2500 100000 20000 caW tfW (by unfold I64; decide) (by unfold I64; decide) W hW
    rw [aw25_2] at h
    exact h
  have hE : optE 0 0 0 0 = 2 := by decide
  have hM := mem_nil w
  go_enter Tryz.func11, Tryz.ntmps11
  go_wp2_with (first | (go_at_call 14; (with_reducible refine (A1 _ (hide (usesAt_mem hM hu.out))).mono ?_); rintro e W1 ⟨rfl, hb⟩; replace hM := mem_below hM hb; clear hb) | (go_at_call 14; (with_reducible refine (A2 _ (hide (usesAt_mem hM hu.out))).mono ?_); rintro e W1 ⟨rfl, hb⟩; replace hM := mem_below hM hb; clear hb) | (go_at_call 12; (with_reducible refine cb hM (opts_any _ _ _ _ _) ?_); clear hM; intro W1 hM) | ((with_reducible refine at_ldx ?_); refine mp_load_old hM rfl rfl rfl Tryz.isAgg23 (size_of w Tryz.sizeOf23) (usual_cells hq.out) rfl ?_) | ((with_reducible refine lX ?_); first | refine aL hM rfl rfl ?_ | refine aM hM rfl rfl ?_) | ((with_reducible refine sX ?_); refine aS hM rfl rfl rfl ?_; clear hM; intro W hM) | ((with_reducible refine bX ?_); refine aB hM rfl rfl ?_; clear hM; intro g W hM) | ((with_reducible refine zX ?_); refine aN hM rfl rfl ?_; clear hM; intro g W hM))
  all_goals
    go_ret
    exact ⟨rfl, hM.below⟩
end Go.Proofs.YtjjdojokkmfbmaaGreatDoor
