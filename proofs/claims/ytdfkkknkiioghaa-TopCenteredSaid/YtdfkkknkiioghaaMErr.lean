/-
  The walk of Errors: the deviation from an element and the bank that it needs.
-/
import Derived.Test.YtdfkkknkiioghaaMLoc
import Derived.Test.YtdfkkknkiioghaaMBankR
import Derived.Test.YtdfkkknkiioghaaMTurnB
namespace Go.Proofs.Ytdfkkknkiioghaa
open Go.RowKit
set_option linter.unusedVariables false
set_option linter.unusedSimpArgs false
theorem arcAt_dir {cx cy r f s al X Y C E : Int} (h : (X, Y, C, E) = arcAt cx cy r f s al) : 0 ≤ C ∧ C < 129600000 := by
  unfold arcAt at h
  have t := turnF_bd (arcDir f s (arcLen cx cy r f s) al) (sideOf s 32400000)
  (repeat' split at h) <;> (simp only [Prod.mk.injEq] at h; omega)
theorem bankV_bd {v r : Int} {R : Int × Int} (h : BankP v r R) : 0 ≤ bankV R ∧ bankV R ≤ 3000 := by
  unfold bankV
  rcases h with ⟨rfl, _⟩ | ⟨_, _, rfl⟩ | ⟨_, h, h2, _⟩
  · simp
  · simp
  · rw [if_pos h]; omega
set_option maxRecDepth 100000 in
set_option maxHeartbeats 8000000 in
theorem errw_out (ax ay bx b_y cx cy r f s L n px py track speed : Int) (c g : Bool) (h : track < 0 ∨ track ≥ 129600000 ∨ speed < 1 ∨ speed > 1000) (w : World) :
    Calls Try.prog 12 #[.agg #[.bool c, .int .i64 ax, .int .i64 ay, .int .i64 bx, .int .i64 b_y, .int .i64 cx, .int .i64 cy, .int .i64 r, .int .i64 f, .int .i64 s, .int .i64 L, .int .i64 n, .bool g], .agg #[.int .i64 px, .int .i64 py], .int .i64 track, .int .i64 speed] w fun e w' => e = .returned (.tuple #[.int .i64 0, .int .i64 0, .int .i64 0, .int .i64 2]) ∧ Below w.heap.size w w' := by
  have h' : track < 0 ∨ (0 ≤ track ∧ track ≥ 129600000) ∨ (0 ≤ track ∧ track < 129600000 ∧ speed < 1) ∨ (0 ≤ track ∧ track < 129600000 ∧ 1 ≤ speed ∧ speed > 1000) := by omega
  clear h
  rcases h' with h | ⟨h, h2⟩ | ⟨h, h2, h3⟩ | ⟨h, h2, h3, h4⟩
  all_goals
    go_enter Try.func12, Try.ntmps12
    go_wp2_with fail
    exact bodyPost_ret (v := .tuple #[.int .i64 0, .int .i64 0, .int .i64 0, .int .i64 2]) (by simp [results, Try.results12, go_sem, *]) rfl ⟨rfl, by (repeat (with_reducible (first | assumption | exact Below.refl _ _ | refine Below.drew ?_ | refine below_drewN ?_ _ | refine below_set ?_ (by simp; try omega) _ | refine below_alloc ?_ (Nat.le_refl _) _ | refine below_sub (by assumption) ?_)))⟩
set_option maxRecDepth 100000 in
set_option maxHeartbeats 8000000 in
theorem errw_loc (ax ay bx b_y cx cy r f s L n px py track speed : Int) (c g : Bool) (o al e0 : Int) (h1 : 0 ≤ track) (h2 : track < 129600000) (h3 : 1 ≤ speed) (h4 : speed ≤ 1000) (he : ¬ e0 = 0) (hl : Hid ((o, al, e0) = locF c ax ay bx b_y cx cy r f s px py)) (w : World) :
    Calls Try.prog 12 #[.agg #[.bool c, .int .i64 ax, .int .i64 ay, .int .i64 bx, .int .i64 b_y, .int .i64 cx, .int .i64 cy, .int .i64 r, .int .i64 f, .int .i64 s, .int .i64 L, .int .i64 n, .bool g], .agg #[.int .i64 px, .int .i64 py], .int .i64 track, .int .i64 speed] w fun e w' => e = .returned (.tuple #[.int .i64 0, .int .i64 0, .int .i64 0, .int .i64 e0]) ∧ Below w.heap.size w w' := by
  have LO := fun W => loc_any c g ax ay bx b_y cx cy r f s L n px py W _ hl.out
  go_enter Try.func12, Try.ntmps12
  go_wp2_with fail
  refine (LO _).mono ?_
  rintro e w1 ⟨rfl, hb1⟩
  obtain ⟨f1, f2, f3, f4, f5, f6, f7, f8, f9, f10, f11, f12, f13, f14, f15⟩ : w1.cell? ⟨w.heap.size, 0, none⟩ = some (.bool c) ∧ w1.cell? ⟨w.heap.size, 1, none⟩ = some (.int .i64 ax) ∧ w1.cell? ⟨w.heap.size, 2, none⟩ = some (.int .i64 ay) ∧ w1.cell? ⟨w.heap.size, 3, none⟩ = some (.int .i64 bx) ∧ w1.cell? ⟨w.heap.size, 4, none⟩ = some (.int .i64 b_y) ∧ w1.cell? ⟨w.heap.size, 5, none⟩ = some (.int .i64 cx) ∧ w1.cell? ⟨w.heap.size, 6, none⟩ = some (.int .i64 cy) ∧ w1.cell? ⟨w.heap.size, 7, none⟩ = some (.int .i64 r) ∧ w1.cell? ⟨w.heap.size, 8, none⟩ = some (.int .i64 f) ∧ w1.cell? ⟨w.heap.size, 9, none⟩ = some (.int .i64 s) ∧ w1.cell? ⟨w.heap.size, 10, none⟩ = some (.int .i64 L) ∧ w1.cell? ⟨w.heap.size, 11, none⟩ = some (.int .i64 n) ∧ w1.cell? ⟨w.heap.size, 12, none⟩ = some (.bool g) ∧ w1.cell? ⟨w.heap.size + 1, 0, none⟩ = some (.int .i64 px) ∧ w1.cell? ⟨w.heap.size + 1, 1, none⟩ = some (.int .i64 py) := by
    refine ⟨?_, ?_, ?_, ?_, ?_, ?_, ?_, ?_, ?_, ?_, ?_, ?_, ?_, ?_, ?_⟩ <;> (refine cell_below hb1 ?_; repeat (first | (with_reducible assumption) | ((with_reducible refine cell_set ?_ ?_ _); (· first | (simp; done) | (simp; omega) | omega)) | ((with_reducible refine cell_new ?_ ?_); (· (simp; done)); (· rfl)) | (with_reducible refine cell_alloc ?_ _) | (with_reducible refine cell_drew ?_) | (with_reducible refine cell_drewN ?_ _) | (with_reducible refine cell_below (by assumption) ?_)))
  have zf1 : w.heap.size < w1.heap.size := World.block_lt_of_cell? _ _ f1
  have zf14 : w.heap.size + 1 < w1.heap.size := World.block_lt_of_cell? _ _ f14
  go_wp2_with fail
  exact bodyPost_ret (v := .tuple #[.int .i64 0, .int .i64 0, .int .i64 0, .int .i64 e0]) (by simp [results, Try.results12, go_sem, *]) rfl ⟨rfl, by (repeat (with_reducible (first | assumption | exact Below.refl _ _ | refine Below.drew ?_ | refine below_drewN ?_ _ | refine below_set ?_ (by simp; try omega) _ | refine below_alloc ?_ (Nat.le_refl _) _ | refine below_sub (by assumption) ?_)))⟩
set_option maxRecDepth 100000 in
set_option maxHeartbeats 8000000 in
theorem errw_line (ax ay bx b_y cx cy r f s L n px py track speed : Int) (g : Bool) (o al C E : Int) (h1 : 0 ≤ track) (h2 : track < 129600000) (h3 : 1 ≤ speed) (h4 : speed ≤ 1000) (ht : I64 track) (hl : Hid ((o, al, (0 : Int)) = locF false ax ay bx b_y cx cy r f s px py)) (hc : (C, E) = courseF ax ay bx b_y) (t1 t2 : Int) (h0 : Hid (E = 0 → t1 = o ∧ t2 = diffF C track)) (h9 : Hid (¬ E = 0 → t1 = 0 ∧ t2 = 0)) (w : World) :
    Calls Try.prog 12 #[.agg #[.bool false, .int .i64 ax, .int .i64 ay, .int .i64 bx, .int .i64 b_y, .int .i64 cx, .int .i64 cy, .int .i64 r, .int .i64 f, .int .i64 s, .int .i64 L, .int .i64 n, .bool g], .agg #[.int .i64 px, .int .i64 py], .int .i64 track, .int .i64 speed] w fun e w' => e = .returned (.tuple #[.int .i64 t1, .int .i64 t2, .int .i64 0, .int .i64 E]) ∧ Below w.heap.size w w' := by
  have LO := fun W => loc_any false g ax ay bx b_y cx cy r f s L n px py W _ hl.out
  have cb := courseF_bd ax ay bx b_y
  have CO := fun W => course_any ax ay bx b_y W
  rw [← hc] at cb CO
  have DF := fun W => diff_any C track (by unfold I64; omega) ht W
  generalize diffF C track = D at *
  clear hc
  go_enter Try.func12, Try.ntmps12
  go_wp2_with fail
  refine (LO _).mono ?_
  rintro e w1 ⟨rfl, hb1⟩
  obtain ⟨f1, f2, f3, f4, f5, f6, f7, f8, f9, f10, f11, f12, f13, f14, f15⟩ : w1.cell? ⟨w.heap.size, 0, none⟩ = some (.bool false) ∧ w1.cell? ⟨w.heap.size, 1, none⟩ = some (.int .i64 ax) ∧ w1.cell? ⟨w.heap.size, 2, none⟩ = some (.int .i64 ay) ∧ w1.cell? ⟨w.heap.size, 3, none⟩ = some (.int .i64 bx) ∧ w1.cell? ⟨w.heap.size, 4, none⟩ = some (.int .i64 b_y) ∧ w1.cell? ⟨w.heap.size, 5, none⟩ = some (.int .i64 cx) ∧ w1.cell? ⟨w.heap.size, 6, none⟩ = some (.int .i64 cy) ∧ w1.cell? ⟨w.heap.size, 7, none⟩ = some (.int .i64 r) ∧ w1.cell? ⟨w.heap.size, 8, none⟩ = some (.int .i64 f) ∧ w1.cell? ⟨w.heap.size, 9, none⟩ = some (.int .i64 s) ∧ w1.cell? ⟨w.heap.size, 10, none⟩ = some (.int .i64 L) ∧ w1.cell? ⟨w.heap.size, 11, none⟩ = some (.int .i64 n) ∧ w1.cell? ⟨w.heap.size, 12, none⟩ = some (.bool g) ∧ w1.cell? ⟨w.heap.size + 1, 0, none⟩ = some (.int .i64 px) ∧ w1.cell? ⟨w.heap.size + 1, 1, none⟩ = some (.int .i64 py) := by
    refine ⟨?_, ?_, ?_, ?_, ?_, ?_, ?_, ?_, ?_, ?_, ?_, ?_, ?_, ?_, ?_⟩ <;> (refine cell_below hb1 ?_; repeat (first | (with_reducible assumption) | ((with_reducible refine cell_set ?_ ?_ _); (· first | (simp; done) | (simp; omega) | omega)) | ((with_reducible refine cell_new ?_ ?_); (· (simp; done)); (· rfl)) | (with_reducible refine cell_alloc ?_ _) | (with_reducible refine cell_drew ?_) | (with_reducible refine cell_drewN ?_ _) | (with_reducible refine cell_below (by assumption) ?_)))
  have zf1 : w.heap.size < w1.heap.size := World.block_lt_of_cell? _ _ f1
  have zf14 : w.heap.size + 1 < w1.heap.size := World.block_lt_of_cell? _ _ f14
  go_wp2_with fail
  refine (CO _).mono ?_
  rintro e w2 ⟨rfl, hb2⟩
  obtain ⟨f16, f17, f18, f19, f20, f21, f22, f23, f24, f25, f26, f27, f28, f29, f30⟩ : w2.cell? ⟨w.heap.size, 0, none⟩ = some (.bool false) ∧ w2.cell? ⟨w.heap.size, 1, none⟩ = some (.int .i64 ax) ∧ w2.cell? ⟨w.heap.size, 2, none⟩ = some (.int .i64 ay) ∧ w2.cell? ⟨w.heap.size, 3, none⟩ = some (.int .i64 bx) ∧ w2.cell? ⟨w.heap.size, 4, none⟩ = some (.int .i64 b_y) ∧ w2.cell? ⟨w.heap.size, 5, none⟩ = some (.int .i64 cx) ∧ w2.cell? ⟨w.heap.size, 6, none⟩ = some (.int .i64 cy) ∧ w2.cell? ⟨w.heap.size, 7, none⟩ = some (.int .i64 r) ∧ w2.cell? ⟨w.heap.size, 8, none⟩ = some (.int .i64 f) ∧ w2.cell? ⟨w.heap.size, 9, none⟩ = some (.int .i64 s) ∧ w2.cell? ⟨w.heap.size, 10, none⟩ = some (.int .i64 L) ∧ w2.cell? ⟨w.heap.size, 11, none⟩ = some (.int .i64 n) ∧ w2.cell? ⟨w.heap.size, 12, none⟩ = some (.bool g) ∧ w2.cell? ⟨w.heap.size + 1, 0, none⟩ = some (.int .i64 px) ∧ w2.cell? ⟨w.heap.size + 1, 1, none⟩ = some (.int .i64 py) := by
    refine ⟨?_, ?_, ?_, ?_, ?_, ?_, ?_, ?_, ?_, ?_, ?_, ?_, ?_, ?_, ?_⟩ <;> (refine cell_below hb2 ?_; repeat (first | (with_reducible assumption) | ((with_reducible refine cell_set ?_ ?_ _); (· first | (simp; done) | (simp; omega) | omega)) | ((with_reducible refine cell_new ?_ ?_); (· (simp; done)); (· rfl)) | (with_reducible refine cell_alloc ?_ _) | (with_reducible refine cell_drew ?_) | (with_reducible refine cell_drewN ?_ _) | (with_reducible refine cell_below (by assumption) ?_)))
  have zf16 : w.heap.size < w2.heap.size := World.block_lt_of_cell? _ _ f16
  have zf29 : w.heap.size + 1 < w2.heap.size := World.block_lt_of_cell? _ _ f29
  clear f1 zf1 f2 f3 f4 f5 f6 f7 f8 f9 f10 f11 f12 f13 f14 zf14 f15
  by_cases hE : E = 0
  · obtain ⟨rfl, rfl⟩ := h0.out hE
    subst hE
    go_wp2_with (go_at_call 34; refine (DF _).mono ?_; rintro e w' ⟨rfl, rfl⟩)
    exact bodyPost_ret (v := .tuple #[.int .i64 t1, .int .i64 t2, .int .i64 0, .int .i64 0]) (by simp [results, Try.results12, go_sem, *]) rfl ⟨rfl, by (repeat (with_reducible (first | assumption | exact Below.refl _ _ | refine Below.drew ?_ | refine below_drewN ?_ _ | refine below_set ?_ (by simp; try omega) _ | refine below_alloc ?_ (Nat.le_refl _) _ | refine below_sub (by assumption) ?_)))⟩
  · obtain ⟨rfl, rfl⟩ := h9.out hE
    go_wp2_with fail
    exact bodyPost_ret (v := .tuple #[.int .i64 0, .int .i64 0, .int .i64 0, .int .i64 E]) (by simp [results, Try.results12, go_sem, *]) rfl ⟨rfl, by (repeat (with_reducible (first | assumption | exact Below.refl _ _ | refine Below.drew ?_ | refine below_drewN ?_ _ | refine below_set ?_ (by simp; try omega) _ | refine below_alloc ?_ (Nat.le_refl _) _ | refine below_sub (by assumption) ?_)))⟩
set_option maxRecDepth 100000 in
set_option maxHeartbeats 8000000 in
theorem errw_arc (ax ay bx b_y cx cy r f s L n px py track speed : Int) (g : Bool) (o al X Y C E B e1 : Int) (h1 : 0 ≤ track) (h2 : track < 129600000) (h3 : 1 ≤ speed) (h4 : speed ≤ 1000) (ht : I64 track) (hv : I64 speed) (hr : I64 r) (hR : BankP speed r (B, e1)) (hl : Hid ((o, al, (0 : Int)) = locF true ax ay bx b_y cx cy r f s px py)) (hc : (X, Y, C, E) = arcAt cx cy r f s (alongV al L (arcLen cx cy r f s))) (t1 t2 t3 : Int) (h0 : Hid (E = 0 → t1 = o ∧ t2 = diffF C track ∧ t3 = bankN s (B, e1))) (h9 : Hid (¬ E = 0 → t1 = 0 ∧ t2 = 0 ∧ t3 = 0)) (w : World) :
    Calls Try.prog 12 #[.agg #[.bool true, .int .i64 ax, .int .i64 ay, .int .i64 bx, .int .i64 b_y, .int .i64 cx, .int .i64 cy, .int .i64 r, .int .i64 f, .int .i64 s, .int .i64 L, .int .i64 n, .bool g], .agg #[.int .i64 px, .int .i64 py], .int .i64 track, .int .i64 speed] w fun e w' => e = .returned (.tuple #[.int .i64 t1, .int .i64 t2, .int .i64 t3, .int .i64 E]) ∧ Below w.heap.size w w' := by
  have LO := fun W => loc_any true g ax ay bx b_y cx cy r f s L n px py W _ hl.out
  have cb := arcAt_dir hc
  have bb := bankV_bd hR
  have bc : e1 = 0 → 0 ≤ B ∧ B ≤ 3000 := by
    intro h
    unfold bankV at bb
    rwa [if_pos h] at bb
  clear bb
  have BK := fun W => bank_to speed r hv hr W _ hR
  have TL := fun W => tlen_any cx cy r f s W
  have ml := (arcLen_bd cx cy r f s).1
  have AT : ∀ (W : World) (v : Int), v = alongV al L (arcLen cx cy r f s) → Calls Try.prog 24 #[.agg #[.int .i64 cx, .int .i64 cy, .int .i64 r, .int .i64 f, .int .i64 s], .int .i64 v] W fun e w' => e = .returned (.tuple #[.agg #[.int .i64 X, .int .i64 Y], .int .i64 C, .int .i64 E]) ∧ Below W.heap.size W w' := by
    intro W v hv
    subst hv
    exact arcat_any cx cy r f s _ W _ hc
  have DF := fun W => diff_any C track (by unfold I64; omega) ht W
  have hV : Hid (alongV al L (arcLen cx cy r f s) = max (min (min (max al 0) L) (arcLen cx cy r f s)) 0) := hide rfl
  generalize diffF C track = D at *
  generalize alongV al L (arcLen cx cy r f s) = V at *
  generalize arcLen cx cy r f s = m at *
  clear hc hR
  · skip
    go_enter Try.func12, Try.ntmps12
    go_wp2_with fail
    refine (LO _).mono ?_
    rintro e w1 ⟨rfl, hb1⟩
    obtain ⟨f1, f2, f3, f4, f5, f6, f7, f8, f9, f10, f11, f12, f13, f14, f15⟩ : w1.cell? ⟨w.heap.size, 0, none⟩ = some (.bool true) ∧ w1.cell? ⟨w.heap.size, 1, none⟩ = some (.int .i64 ax) ∧ w1.cell? ⟨w.heap.size, 2, none⟩ = some (.int .i64 ay) ∧ w1.cell? ⟨w.heap.size, 3, none⟩ = some (.int .i64 bx) ∧ w1.cell? ⟨w.heap.size, 4, none⟩ = some (.int .i64 b_y) ∧ w1.cell? ⟨w.heap.size, 5, none⟩ = some (.int .i64 cx) ∧ w1.cell? ⟨w.heap.size, 6, none⟩ = some (.int .i64 cy) ∧ w1.cell? ⟨w.heap.size, 7, none⟩ = some (.int .i64 r) ∧ w1.cell? ⟨w.heap.size, 8, none⟩ = some (.int .i64 f) ∧ w1.cell? ⟨w.heap.size, 9, none⟩ = some (.int .i64 s) ∧ w1.cell? ⟨w.heap.size, 10, none⟩ = some (.int .i64 L) ∧ w1.cell? ⟨w.heap.size, 11, none⟩ = some (.int .i64 n) ∧ w1.cell? ⟨w.heap.size, 12, none⟩ = some (.bool g) ∧ w1.cell? ⟨w.heap.size + 1, 0, none⟩ = some (.int .i64 px) ∧ w1.cell? ⟨w.heap.size + 1, 1, none⟩ = some (.int .i64 py) := by
      refine ⟨?_, ?_, ?_, ?_, ?_, ?_, ?_, ?_, ?_, ?_, ?_, ?_, ?_, ?_, ?_⟩ <;> (refine cell_below hb1 ?_; repeat (first | (with_reducible assumption) | ((with_reducible refine cell_set ?_ ?_ _); (· first | (simp; done) | (simp; omega) | omega)) | ((with_reducible refine cell_new ?_ ?_); (· (simp; done)); (· rfl)) | (with_reducible refine cell_alloc ?_ _) | (with_reducible refine cell_drew ?_) | (with_reducible refine cell_drewN ?_ _) | (with_reducible refine cell_below (by assumption) ?_)))
    have zf1 : w.heap.size < w1.heap.size := World.block_lt_of_cell? _ _ f1
    have zf14 : w.heap.size + 1 < w1.heap.size := World.block_lt_of_cell? _ _ f14
    go_wp2_with fail
    go_region_held3 (fun w' => w'.cell? ⟨w.heap.size, 0, none⟩ = some (.bool true) ∧ w'.cell? ⟨w.heap.size, 1, none⟩ = some (.int .i64 ax) ∧ w'.cell? ⟨w.heap.size, 2, none⟩ = some (.int .i64 ay) ∧ w'.cell? ⟨w.heap.size, 3, none⟩ = some (.int .i64 bx) ∧ w'.cell? ⟨w.heap.size, 4, none⟩ = some (.int .i64 b_y) ∧ w'.cell? ⟨w.heap.size, 5, none⟩ = some (.int .i64 cx) ∧ w'.cell? ⟨w.heap.size, 6, none⟩ = some (.int .i64 cy) ∧ w'.cell? ⟨w.heap.size, 7, none⟩ = some (.int .i64 r) ∧ w'.cell? ⟨w.heap.size, 8, none⟩ = some (.int .i64 f) ∧ w'.cell? ⟨w.heap.size, 9, none⟩ = some (.int .i64 s) ∧ w'.cell? ⟨w.heap.size, 10, none⟩ = some (.int .i64 L) ∧ w'.cell? ⟨w.heap.size, 11, none⟩ = some (.int .i64 n) ∧ w'.cell? ⟨w.heap.size, 12, none⟩ = some (.bool g) ∧ w'.cell? ⟨w.heap.size + 1, 0, none⟩ = some (.int .i64 px) ∧ w'.cell? ⟨w.heap.size + 1, 1, none⟩ = some (.int .i64 py)) ((go_split_ands; refine ⟨?_, ?_, ?_, ?_, ?_, ?_, ?_, ?_, ?_, ?_, ?_, ?_, ?_, ?_, ?_⟩ <;> (repeat (first | (with_reducible assumption) | ((with_reducible refine cell_set ?_ ?_ _); (· first | (simp; done) | (simp; omega) | omega)) | ((with_reducible refine cell_new ?_ ?_); (· (simp; done)); (· rfl)) | (with_reducible refine cell_alloc ?_ _) | (with_reducible refine cell_drew ?_) | (with_reducible refine cell_drewN ?_ _) | (with_reducible refine cell_below (by assumption) ?_)))))
      (first
        | (go_at_call 32; (with_reducible refine (TL _).mono ?_); rintro e w' ⟨rfl, hb'⟩)
        | (go_at_call 24; (with_reducible refine (AT _ _ ?_).mono ?_); (· first | exact hV.out.symm | (have hVV := hV.out; omega)); rintro e w' ⟨rfl, hb'⟩))
    rename_i hH
    obtain ⟨f16, f17, f18, f19, f20, f21, f22, f23, f24, f25, f26, f27, f28, f29, f30⟩ := hH
    have zf16 : w.heap.size < w'.heap.size := World.block_lt_of_cell? _ _ f16
    have zf29 : w.heap.size + 1 < w'.heap.size := World.block_lt_of_cell? _ _ f29
    clear f1 zf1 f2 f3 f4 f5 f6 f7 f8 f9 f10 f11 f12 f13 f14 zf14 f15
    by_cases hE : E = 0
    · obtain ⟨rfl, rfl, ht3⟩ := h0.out hE
      subst hE
      go_wp2_with fail
      refine (BK _).mono ?_
      rintro e w2 ⟨rfl, hb2⟩
      obtain ⟨f31, f32, f33, f34, f35, f36, f37, f38, f39, f40, f41, f42, f43, f44, f45⟩ : w2.cell? ⟨w.heap.size, 0, none⟩ = some (.bool true) ∧ w2.cell? ⟨w.heap.size, 1, none⟩ = some (.int .i64 ax) ∧ w2.cell? ⟨w.heap.size, 2, none⟩ = some (.int .i64 ay) ∧ w2.cell? ⟨w.heap.size, 3, none⟩ = some (.int .i64 bx) ∧ w2.cell? ⟨w.heap.size, 4, none⟩ = some (.int .i64 b_y) ∧ w2.cell? ⟨w.heap.size, 5, none⟩ = some (.int .i64 cx) ∧ w2.cell? ⟨w.heap.size, 6, none⟩ = some (.int .i64 cy) ∧ w2.cell? ⟨w.heap.size, 7, none⟩ = some (.int .i64 r) ∧ w2.cell? ⟨w.heap.size, 8, none⟩ = some (.int .i64 f) ∧ w2.cell? ⟨w.heap.size, 9, none⟩ = some (.int .i64 s) ∧ w2.cell? ⟨w.heap.size, 10, none⟩ = some (.int .i64 L) ∧ w2.cell? ⟨w.heap.size, 11, none⟩ = some (.int .i64 n) ∧ w2.cell? ⟨w.heap.size, 12, none⟩ = some (.bool g) ∧ w2.cell? ⟨w.heap.size + 1, 0, none⟩ = some (.int .i64 px) ∧ w2.cell? ⟨w.heap.size + 1, 1, none⟩ = some (.int .i64 py) := by
        refine ⟨?_, ?_, ?_, ?_, ?_, ?_, ?_, ?_, ?_, ?_, ?_, ?_, ?_, ?_, ?_⟩ <;> (refine cell_below hb2 ?_; repeat (first | (with_reducible assumption) | ((with_reducible refine cell_set ?_ ?_ _); (· first | (simp; done) | (simp; omega) | omega)) | ((with_reducible refine cell_new ?_ ?_); (· (simp; done)); (· rfl)) | (with_reducible refine cell_alloc ?_ _) | (with_reducible refine cell_drew ?_) | (with_reducible refine cell_drewN ?_ _) | (with_reducible refine cell_below (by assumption) ?_)))
      have zf31 : w.heap.size < w2.heap.size := World.block_lt_of_cell? _ _ f31
      have zf44 : w.heap.size + 1 < w2.heap.size := World.block_lt_of_cell? _ _ f44
      clear f16 zf16 f17 f18 f19 f20 f21 f22 f23 f24 f25 f26 f27 f28 f29 zf29 f30
      by_cases hB : e1 = 0
      · obtain ⟨b0, b1⟩ := bc hB
        have hN : bankN s (B, e1) = if s < 0 then -B else B := by unfold bankN bankV; simp [hB]
        by_cases hs : s < 0
        · obtain rfl := ht3.trans (hN.trans (if_pos hs))
          clear hN ht3
          go_wp2_with (go_at_call 34; refine (DF _).mono ?_; rintro e w' ⟨rfl, rfl⟩)
          exact bodyPost_ret (v := .tuple #[.int .i64 t1, .int .i64 t2, .int .i64 (-B), .int .i64 0]) (by simp [results, Try.results12, go_sem, *]) rfl ⟨rfl, by (repeat (with_reducible (first | assumption | exact Below.refl _ _ | refine Below.drew ?_ | refine below_drewN ?_ _ | refine below_set ?_ (by simp; try omega) _ | refine below_alloc ?_ (Nat.le_refl _) _ | refine below_sub (by assumption) ?_)))⟩
        · obtain rfl := ht3.trans (hN.trans (if_neg hs))
          clear hN ht3
          go_wp2_with (go_at_call 34; refine (DF _).mono ?_; rintro e w' ⟨rfl, rfl⟩)
          exact bodyPost_ret (v := .tuple #[.int .i64 t1, .int .i64 t2, .int .i64 t3, .int .i64 0]) (by simp [results, Try.results12, go_sem, *]) rfl ⟨rfl, by (repeat (with_reducible (first | assumption | exact Below.refl _ _ | refine Below.drew ?_ | refine below_drewN ?_ _ | refine below_set ?_ (by simp; try omega) _ | refine below_alloc ?_ (Nat.le_refl _) _ | refine below_sub (by assumption) ?_)))⟩
      · skip
        have hN : bankN s (B, e1) = if s < 0 then -3000 else 3000 := by unfold bankN bankV; simp [hB]
        by_cases hs : s < 0
        · obtain rfl := ht3.trans (hN.trans (if_pos hs))
          clear hN ht3
          go_wp2_with (go_at_call 34; refine (DF _).mono ?_; rintro e w' ⟨rfl, rfl⟩)
          exact bodyPost_ret (v := .tuple #[.int .i64 t1, .int .i64 t2, .int .i64 (-3000), .int .i64 0]) (by simp [results, Try.results12, go_sem, *]) rfl ⟨rfl, by (repeat (with_reducible (first | assumption | exact Below.refl _ _ | refine Below.drew ?_ | refine below_drewN ?_ _ | refine below_set ?_ (by simp; try omega) _ | refine below_alloc ?_ (Nat.le_refl _) _ | refine below_sub (by assumption) ?_)))⟩
        · obtain rfl := ht3.trans (hN.trans (if_neg hs))
          clear hN ht3
          go_wp2_with (go_at_call 34; refine (DF _).mono ?_; rintro e w' ⟨rfl, rfl⟩)
          exact bodyPost_ret (v := .tuple #[.int .i64 t1, .int .i64 t2, .int .i64 3000, .int .i64 0]) (by simp [results, Try.results12, go_sem, *]) rfl ⟨rfl, by (repeat (with_reducible (first | assumption | exact Below.refl _ _ | refine Below.drew ?_ | refine below_drewN ?_ _ | refine below_set ?_ (by simp; try omega) _ | refine below_alloc ?_ (Nat.le_refl _) _ | refine below_sub (by assumption) ?_)))⟩
    · obtain ⟨rfl, rfl, rfl⟩ := h9.out hE
      go_wp2_with fail
      exact bodyPost_ret (v := .tuple #[.int .i64 0, .int .i64 0, .int .i64 0, .int .i64 E]) (by simp [results, Try.results12, go_sem, *]) rfl ⟨rfl, by (repeat (with_reducible (first | assumption | exact Below.refl _ _ | refine Below.drew ?_ | refine below_drewN ?_ _ | refine below_set ?_ (by simp; try omega) _ | refine below_alloc ?_ (Nat.le_refl _) _ | refine below_sub (by assumption) ?_)))⟩
theorem errw_any (c g : Bool) (ax ay bx b_y cx cy r f s L n px py track speed : Int) (ht : I64 track) (hv : I64 speed) (hr : I64 r) (w : World) (R : Int × Int) (hR : BankP speed r R) (T : Int × Int × Int × Int) (hT : T = errF c ax ay bx b_y cx cy r f s L px py track speed R) :
    Calls Try.prog 12 #[.agg #[.bool c, .int .i64 ax, .int .i64 ay, .int .i64 bx, .int .i64 b_y, .int .i64 cx, .int .i64 cy, .int .i64 r, .int .i64 f, .int .i64 s, .int .i64 L, .int .i64 n, .bool g], .agg #[.int .i64 px, .int .i64 py], .int .i64 track, .int .i64 speed] w fun e w' => e = .returned (.tuple #[.int .i64 T.1, .int .i64 T.2.1, .int .i64 T.2.2.1, .int .i64 T.2.2.2]) ∧ Below w.heap.size w w' := by
  by_cases h : track < 0 ∨ track ≥ 129600000 ∨ speed < 1 ∨ speed > 1000
  · rw [err_out h] at hT
    subst hT
    exact errw_out ax ay bx b_y cx cy r f s L n px py track speed c g h w
  · have h1 : 0 ≤ track := by omega
    have h2 : track < 129600000 := by omega
    have h3 : 1 ≤ speed := by omega
    have h4 : speed ≤ 1000 := by omega
    obtain ⟨Q, hQ⟩ : ∃ Q, Q = locF c ax ay bx b_y cx cy r f s px py := ⟨_, rfl⟩
    obtain ⟨o, al, e0⟩ := Q
    by_cases he : e0 = 0
    · subst he
      cases c with
      | false =>
        obtain ⟨P, hP⟩ : ∃ P, P = courseF ax ay bx b_y := ⟨_, rfl⟩
        obtain ⟨C, E⟩ := P
        rw [err_line h hQ hP] at hT
        have := fun t1 t2 h0 h9 => errw_line ax ay bx b_y cx cy r f s L n px py track speed g o al C E h1 h2 h3 h4 ht (hide hQ) hP t1 t2 h0 h9 w
        by_cases hE : E = 0
        · rw [if_pos hE] at hT
          subst hT
          have := this o (diffF C track) (hide (fun _ => ⟨rfl, rfl⟩)) (hide (fun h => absurd hE h))
          rwa [hE] at this
        · rw [if_neg hE] at hT
          subst hT
          exact this 0 0 (hide (fun h => absurd h hE)) (hide (fun _ => ⟨rfl, rfl⟩))
      | true =>
        obtain ⟨P, hP⟩ : ∃ P, P = arcAt cx cy r f s (alongV al L (arcLen cx cy r f s)) := ⟨_, rfl⟩
        obtain ⟨X, Y, C, E⟩ := P
        rw [err_arc h hQ hP] at hT
        have := fun t1 t2 t3 h0 h9 => errw_arc ax ay bx b_y cx cy r f s L n px py track speed g o al X Y C E R.1 R.2 h1 h2 h3 h4 ht hv hr hR (hide hQ) hP t1 t2 t3 h0 h9 w
        by_cases hE : E = 0
        · rw [if_pos hE] at hT
          subst hT
          have := this o (diffF C track) (bankN s R) (hide (fun _ => ⟨rfl, rfl, rfl⟩)) (hide (fun h => absurd hE h))
          rwa [hE] at this
        · rw [if_neg hE] at hT
          subst hT
          exact this 0 0 0 (hide (fun h => absurd h hE)) (hide (fun _ => ⟨rfl, rfl, rfl⟩))
    · rw [err_loc h hQ he] at hT
      subst hT
      exact errw_loc ax ay bx b_y cx cy r f s L n px py track speed c g o al e0 h1 h2 h3 h4 he (hide hQ) w
end Go.Proofs.Ytdfkkknkiioghaa

