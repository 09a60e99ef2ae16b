/-
  The walk of the law TurnSplits.
-/
import Derived.Test.YteedgcffdgkicaaMAwakeT
import Derived.Test.YteedgcffdgkicaaRows
import Derived.Test.YteedgcffdgkicaaMFrame
namespace Go.Proofs.Yteedgcffdgkicaa
open Go.RowKit
set_option linter.unusedVariables false
set_option linter.unusedSimpArgs false
set_option maxRecDepth 100000 in
set_option maxHeartbeats 4000000 in
theorem turnSplits_walk (cx cy r f s cut : Int) (hcx : I64 cx) (hcy : I64 cy) (hr : I64 r) (hf : I64 f) (hs : I64 s) (hcut : I64 cut) (w : World) :
    Calls Try.prog 4 #[.agg #[.int .i64 cx, .int .i64 cy, .int .i64 r, .int .i64 f, .int .i64 s], .int .i64 cut] w fun e w' => e = .returned (.bool true) ∧ Below w.heap.size w w' := by
  rcases hB : arcB cx cy r f s with _ | _
  · have HL := hide (show arcLen cx cy r f s = 0 from by unfold arcLen; rw [hB]; rfl)
    have HB := hide hB
    clear hB
    · skip
      go_enter Try.func4, Try.ntmps4
      go_wp2_with fail
      refine (awake12_any _).mono ?_
      rintro e w1 ⟨rfl, hb1⟩
      obtain ⟨f1, f2, f3, f4, f5⟩ : w1.cell? ⟨w.heap.size, 0, none⟩ = some (.int .i64 cx) ∧ w1.cell? ⟨w.heap.size, 1, none⟩ = some (.int .i64 cy) ∧ w1.cell? ⟨w.heap.size, 2, none⟩ = some (.int .i64 r) ∧ w1.cell? ⟨w.heap.size, 3, none⟩ = some (.int .i64 f) ∧ w1.cell? ⟨w.heap.size, 4, none⟩ = some (.int .i64 s) := by
        refine ⟨?_, ?_, ?_, ?_, ?_⟩ <;> (refine cell_below hb1 ?_; repeat (first | (with_reducible assumption) | ((with_reducible refine cell_set ?_ ?_ _); (· first | (simp; done) | (simp; omega) | omega)) | ((with_reducible refine cell_new ?_ ?_); (· (simp; done)); (· rfl)) | (with_reducible refine cell_alloc ?_ _) | (with_reducible refine cell_drew ?_) | (with_reducible refine cell_drewN ?_ _) | (with_reducible refine cell_below (by assumption) ?_)))
      have zf1 : w.heap.size < w1.heap.size := World.block_lt_of_cell? _ _ f1
      go_wp2_with fail
      refine (tvalid_any cx cy r f s _).mono ?_
      rintro e w2 ⟨rfl, hb2⟩
      rw [HB.out]
      obtain ⟨f6, f7, f8, f9, f10⟩ : w2.cell? ⟨w.heap.size, 0, none⟩ = some (.int .i64 cx) ∧ w2.cell? ⟨w.heap.size, 1, none⟩ = some (.int .i64 cy) ∧ w2.cell? ⟨w.heap.size, 2, none⟩ = some (.int .i64 r) ∧ w2.cell? ⟨w.heap.size, 3, none⟩ = some (.int .i64 f) ∧ w2.cell? ⟨w.heap.size, 4, none⟩ = some (.int .i64 s) := by
        refine ⟨?_, ?_, ?_, ?_, ?_⟩ <;> (refine cell_below hb2 ?_; repeat (first | (with_reducible assumption) | ((with_reducible refine cell_set ?_ ?_ _); (· first | (simp; done) | (simp; omega) | omega)) | ((with_reducible refine cell_new ?_ ?_); (· (simp; done)); (· rfl)) | (with_reducible refine cell_alloc ?_ _) | (with_reducible refine cell_drew ?_) | (with_reducible refine cell_drewN ?_ _) | (with_reducible refine cell_below (by assumption) ?_)))
      have zf6 : w.heap.size < w2.heap.size := World.block_lt_of_cell? _ _ f6
      clear f1 zf1 f2 f3 f4 f5
      go_wp2_with fail
      refine (tlen_any cx cy r f s _).mono ?_
      rintro e w3 ⟨rfl, hb3⟩
      rw [HL.out]
      obtain ⟨f11, f12, f13, f14, f15⟩ : w3.cell? ⟨w.heap.size, 0, none⟩ = some (.int .i64 cx) ∧ w3.cell? ⟨w.heap.size, 1, none⟩ = some (.int .i64 cy) ∧ w3.cell? ⟨w.heap.size, 2, none⟩ = some (.int .i64 r) ∧ w3.cell? ⟨w.heap.size, 3, none⟩ = some (.int .i64 f) ∧ w3.cell? ⟨w.heap.size, 4, none⟩ = some (.int .i64 s) := by
        refine ⟨?_, ?_, ?_, ?_, ?_⟩ <;> (refine cell_below hb3 ?_; repeat (first | (with_reducible assumption) | ((with_reducible refine cell_set ?_ ?_ _); (· first | (simp; done) | (simp; omega) | omega)) | ((with_reducible refine cell_new ?_ ?_); (· (simp; done)); (· rfl)) | (with_reducible refine cell_alloc ?_ _) | (with_reducible refine cell_drew ?_) | (with_reducible refine cell_drewN ?_ _) | (with_reducible refine cell_below (by assumption) ?_)))
      have zf11 : w.heap.size < w3.heap.size := World.block_lt_of_cell? _ _ f11
      clear f6 zf6 f7 f8 f9 f10
      go_wp2_with fail
      all_goals
        go_ret
        exact ⟨rfl, by (repeat (with_reducible (first | assumption | exact Below.refl _ _ | refine Below.drew ?_ | refine below_drewN ?_ _ | refine below_set ?_ (by simp; try omega) _ | refine below_alloc ?_ (Nat.le_refl _) _ | refine below_sub (by assumption) ?_)))⟩
  by_cases hs : s = 0
  · subst hs
    have HL := hide (show arcLen cx cy r f 0 = 0 from by rw [arcLen_eq hB]; simp; exact rnd2_zero _ (by decide))
    have HB := hide hB
    clear hB
    · skip
      go_enter Try.func4, Try.ntmps4
      go_wp2_with fail
      refine (awake12_any _).mono ?_
      rintro e w1 ⟨rfl, hb1⟩
      obtain ⟨f1, f2, f3, f4, f5⟩ : w1.cell? ⟨w.heap.size, 0, none⟩ = some (.int .i64 cx) ∧ w1.cell? ⟨w.heap.size, 1, none⟩ = some (.int .i64 cy) ∧ w1.cell? ⟨w.heap.size, 2, none⟩ = some (.int .i64 r) ∧ w1.cell? ⟨w.heap.size, 3, none⟩ = some (.int .i64 f) ∧ w1.cell? ⟨w.heap.size, 4, none⟩ = some (.int .i64 0) := by
        refine ⟨?_, ?_, ?_, ?_, ?_⟩ <;> (refine cell_below hb1 ?_; repeat (first | (with_reducible assumption) | ((with_reducible refine cell_set ?_ ?_ _); (· first | (simp; done) | (simp; omega) | omega)) | ((with_reducible refine cell_new ?_ ?_); (· (simp; done)); (· rfl)) | (with_reducible refine cell_alloc ?_ _) | (with_reducible refine cell_drew ?_) | (with_reducible refine cell_drewN ?_ _) | (with_reducible refine cell_below (by assumption) ?_)))
      have zf1 : w.heap.size < w1.heap.size := World.block_lt_of_cell? _ _ f1
      go_wp2_with fail
      refine (tvalid_any cx cy r f 0 _).mono ?_
      rintro e w2 ⟨rfl, hb2⟩
      rw [HB.out]
      obtain ⟨f6, f7, f8, f9, f10⟩ : w2.cell? ⟨w.heap.size, 0, none⟩ = some (.int .i64 cx) ∧ w2.cell? ⟨w.heap.size, 1, none⟩ = some (.int .i64 cy) ∧ w2.cell? ⟨w.heap.size, 2, none⟩ = some (.int .i64 r) ∧ w2.cell? ⟨w.heap.size, 3, none⟩ = some (.int .i64 f) ∧ w2.cell? ⟨w.heap.size, 4, none⟩ = some (.int .i64 0) := by
        refine ⟨?_, ?_, ?_, ?_, ?_⟩ <;> (refine cell_below hb2 ?_; repeat (first | (with_reducible assumption) | ((with_reducible refine cell_set ?_ ?_ _); (· first | (simp; done) | (simp; omega) | omega)) | ((with_reducible refine cell_new ?_ ?_); (· (simp; done)); (· rfl)) | (with_reducible refine cell_alloc ?_ _) | (with_reducible refine cell_drew ?_) | (with_reducible refine cell_drewN ?_ _) | (with_reducible refine cell_below (by assumption) ?_)))
      have zf6 : w.heap.size < w2.heap.size := World.block_lt_of_cell? _ _ f6
      clear f1 zf1 f2 f3 f4 f5
      go_wp2_with fail
      refine (tlen_any cx cy r f 0 _).mono ?_
      rintro e w3 ⟨rfl, hb3⟩
      rw [HL.out]
      obtain ⟨f11, f12, f13, f14, f15⟩ : w3.cell? ⟨w.heap.size, 0, none⟩ = some (.int .i64 cx) ∧ w3.cell? ⟨w.heap.size, 1, none⟩ = some (.int .i64 cy) ∧ w3.cell? ⟨w.heap.size, 2, none⟩ = some (.int .i64 r) ∧ w3.cell? ⟨w.heap.size, 3, none⟩ = some (.int .i64 f) ∧ w3.cell? ⟨w.heap.size, 4, none⟩ = some (.int .i64 0) := by
        refine ⟨?_, ?_, ?_, ?_, ?_⟩ <;> (refine cell_below hb3 ?_; repeat (first | (with_reducible assumption) | ((with_reducible refine cell_set ?_ ?_ _); (· first | (simp; done) | (simp; omega) | omega)) | ((with_reducible refine cell_new ?_ ?_); (· (simp; done)); (· rfl)) | (with_reducible refine cell_alloc ?_ _) | (with_reducible refine cell_drew ?_) | (with_reducible refine cell_drewN ?_ _) | (with_reducible refine cell_below (by assumption) ?_)))
      have zf11 : w.heap.size < w3.heap.size := World.block_lt_of_cell? _ _ f11
      clear f6 zf6 f7 f8 f9 f10
      go_wp2_with fail
      all_goals
        go_ret
        exact ⟨rfl, by (repeat (with_reducible (first | assumption | exact Below.refl _ _ | refine Below.drew ?_ | refine below_drewN ?_ _ | refine below_set ?_ (by simp; try omega) _ | refine below_alloc ?_ (Nat.le_refl _) _ | refine below_sub (by assumption) ?_)))⟩
  have hub := cutF_bd (s := s) (c := cut) hs
  have hsp := splits hB hub
  have sb := (arcB_iff _ _ _ _ _).1 hB
  obtain ⟨_, _, _, _, _, sb1, sb2⟩ := sb
  have tb : (cut.tmod s).natAbs < s.natAbs := by rw [Int.natAbs_tmod]; exact Nat.mod_lt _ (by omega)
  unfold cutF at hub hsp
  have hs' : (s == 0) = false := by rw [beq_eq_false_iff_ne]; exact hs
  obtain ⟨t, ht⟩ : ∃ t, cut.tmod s = t := ⟨_, rfl⟩
  rw [ht] at hub hsp tb
  by_cases s1 : s < 0
  · by_cases t1 : t < 0
    · have hub' := hub
      rw [decide_eq_true t1, decide_eq_true s1, if_pos rfl] at hub hsp
      have L1 := fun W => tlen_any cx cy r f t W
      have L2 := fun W => tlen_any cx cy r f (s - t) W
      have L3 := fun W => tlen_any cx cy r f s W
      have n1 := arcLen_bd cx cy r f t
      have n2 := arcLen_bd cx cy r f (s - t)
      have n3 := arcLen_bd cx cy r f s
      have HB := hide hB
      clear hB hub hub'
      generalize arcLen cx cy r f t = l1 at *
      generalize arcLen cx cy r f (s - t) = l2 at *
      generalize arcLen cx cy r f s = l3 at *
      have wn := wi' (x := l1 + l2) (by omega) (by omega)
      clear hs'
      have sd : decide (s < 0) = true := decide_eq_true s1
      have td : decide (t < 0) = true := decide_eq_true t1
      go_enter Try.func4, Try.ntmps4
      go_wp2_with fail
      refine (awake12_any _).mono ?_
      rintro e w1 ⟨rfl, hb1⟩
      obtain ⟨f1, f2, f3, f4, f5⟩ : w1.cell? ⟨w.heap.size, 0, none⟩ = some (.int .i64 cx) ∧ w1.cell? ⟨w.heap.size, 1, none⟩ = some (.int .i64 cy) ∧ w1.cell? ⟨w.heap.size, 2, none⟩ = some (.int .i64 r) ∧ w1.cell? ⟨w.heap.size, 3, none⟩ = some (.int .i64 f) ∧ w1.cell? ⟨w.heap.size, 4, none⟩ = some (.int .i64 s) := by
        refine ⟨?_, ?_, ?_, ?_, ?_⟩ <;> (refine cell_below hb1 ?_; repeat (first | (with_reducible assumption) | ((with_reducible refine cell_set ?_ ?_ _); (· first | (simp; done) | (simp; omega) | omega)) | ((with_reducible refine cell_new ?_ ?_); (· (simp; done)); (· rfl)) | (with_reducible refine cell_alloc ?_ _) | (with_reducible refine cell_drew ?_) | (with_reducible refine cell_drewN ?_ _) | (with_reducible refine cell_below (by assumption) ?_)))
      have zf1 : w.heap.size < w1.heap.size := World.block_lt_of_cell? _ _ f1
      go_wp2_with fail
      refine (tvalid_any cx cy r f s _).mono ?_
      rintro e w2 ⟨rfl, hb2⟩
      rw [HB.out]
      obtain ⟨f6, f7, f8, f9, f10⟩ : w2.cell? ⟨w.heap.size, 0, none⟩ = some (.int .i64 cx) ∧ w2.cell? ⟨w.heap.size, 1, none⟩ = some (.int .i64 cy) ∧ w2.cell? ⟨w.heap.size, 2, none⟩ = some (.int .i64 r) ∧ w2.cell? ⟨w.heap.size, 3, none⟩ = some (.int .i64 f) ∧ w2.cell? ⟨w.heap.size, 4, none⟩ = some (.int .i64 s) := by
        refine ⟨?_, ?_, ?_, ?_, ?_⟩ <;> (refine cell_below hb2 ?_; repeat (first | (with_reducible assumption) | ((with_reducible refine cell_set ?_ ?_ _); (· first | (simp; done) | (simp; omega) | omega)) | ((with_reducible refine cell_new ?_ ?_); (· (simp; done)); (· rfl)) | (with_reducible refine cell_alloc ?_ _) | (with_reducible refine cell_drew ?_) | (with_reducible refine cell_drewN ?_ _) | (with_reducible refine cell_below (by assumption) ?_)))
      have zf6 : w.heap.size < w2.heap.size := World.block_lt_of_cell? _ _ f6
      clear f1 zf1 f2 f3 f4 f5
      go_wp2_with fail
      go_cut [5, 6] (fun sA sB wx => ∃ (g h : Nat) (wy : World), sA = .pointer (some ⟨g, 0, none⟩) ∧ sB = .pointer (some ⟨h, 0, none⟩) ∧ wy = wx ∧ (g ≠ h ∧ w2.heap.size ≤ g ∧ w2.heap.size ≤ h) ∧ ((wy.cell? ⟨g, 0, none⟩ = some (.int .i64 cx) ∧ wy.frozen? ⟨g, 0, none⟩ = false) ∧ (wy.cell? ⟨g, 1, none⟩ = some (.int .i64 cy) ∧ wy.frozen? ⟨g, 1, none⟩ = false) ∧ (wy.cell? ⟨g, 2, none⟩ = some (.int .i64 r) ∧ wy.frozen? ⟨g, 2, none⟩ = false) ∧ (wy.cell? ⟨g, 3, none⟩ = some (.int .i64 f) ∧ wy.frozen? ⟨g, 3, none⟩ = false) ∧ (wy.cell? ⟨g, 4, none⟩ = some (.int .i64 s) ∧ wy.frozen? ⟨g, 4, none⟩ = false)) ∧ ((wy.cell? ⟨h, 0, none⟩ = some (.int .i64 cx) ∧ wy.frozen? ⟨h, 0, none⟩ = false) ∧ (wy.cell? ⟨h, 1, none⟩ = some (.int .i64 cy) ∧ wy.frozen? ⟨h, 1, none⟩ = false) ∧ (wy.cell? ⟨h, 2, none⟩ = some (.int .i64 r) ∧ wy.frozen? ⟨h, 2, none⟩ = false) ∧ (wy.cell? ⟨h, 3, none⟩ = some (.int .i64 f) ∧ wy.frozen? ⟨h, 3, none⟩ = false) ∧ (wy.cell? ⟨h, 4, none⟩ = some (.int .i64 s) ∧ wy.frozen? ⟨h, 4, none⟩ = false)) ∧ Below w2.heap.size w2 wy)
      case first =>
        go_region_held3 (fun w' => w'.cell? ⟨w.heap.size, 0, none⟩ = some (.int .i64 cx) ∧ w'.cell? ⟨w.heap.size, 1, none⟩ = some (.int .i64 cy) ∧ w'.cell? ⟨w.heap.size, 2, none⟩ = some (.int .i64 r) ∧ w'.cell? ⟨w.heap.size, 3, none⟩ = some (.int .i64 f) ∧ w'.cell? ⟨w.heap.size, 4, none⟩ = some (.int .i64 s))
          (go_keep)
          (first | fail)
        all_goals
          go_wp2_with fail
          go_meet
          refine ⟨_, _, _, rfl, rfl, rfl, ⟨by simp, by simp, by simp⟩, ?_, ?_, ?_⟩
          · refine ⟨?_, ?_, ?_, ?_, ?_⟩ <;> (repeat (first | (refine ⟨?_, ?_⟩ <;> (with_reducible assumption)) | (with_reducible apply own_same) | ((with_reducible refine own_set ?_ ?_ _); (· first | (simp; done) | (simp; omega))) | ((with_reducible refine own_new ?_ ?_); (· (simp; done)); (· rfl)) | (with_reducible refine own_alloc ?_ _) | (with_reducible refine own_drew ?_) | (with_reducible refine own_drewN ?_ _) | (with_reducible refine own_below (by assumption) ?_)))
          · refine ⟨?_, ?_, ?_, ?_, ?_⟩ <;> (repeat (first | (refine ⟨?_, ?_⟩ <;> (with_reducible assumption)) | (with_reducible apply own_same) | ((with_reducible refine own_set ?_ ?_ _); (· first | (simp; done) | (simp; omega))) | ((with_reducible refine own_new ?_ ?_); (· (simp; done)); (· rfl)) | (with_reducible refine own_alloc ?_ _) | (with_reducible refine own_drew ?_) | (with_reducible refine own_drewN ?_ _) | (with_reducible refine own_below (by assumption) ?_)))
          · (repeat (with_reducible (first | assumption | exact Below.refl _ _ | refine Below.drew ?_ | refine below_drewN ?_ _ | refine below_set ?_ (by simp; try omega) _ | refine below_alloc ?_ (Nat.le_refl _) _ | refine below_sub (by assumption) ?_)))
      case rest =>
        obtain ⟨g, h, wy, rfl, rfl, rfl, ⟨gh, hg1, hh1⟩, ⟨⟨a0, a0'⟩, ⟨a1, a1'⟩, ⟨a2, a2'⟩, ⟨a3, a3'⟩, ⟨a4, a4'⟩⟩, ⟨⟨b0, b0'⟩, ⟨b1, b1'⟩, ⟨b2, b2'⟩, ⟨b3, b3'⟩, ⟨b4, b4'⟩⟩, hbx⟩ := hcut
        have gh' : h ≠ g := fun e => gh e.symm
        have gw : g ≠ w.heap.size := by omega
        have gw' : w.heap.size ≠ g := by omega
        have hw : h ≠ w.heap.size := by omega
        have hw' : w.heap.size ≠ h := by omega
        have gL : w.heap.size ≤ g := by omega
        have hL : w.heap.size ≤ h := by omega
        obtain ⟨t11, t12, t13, t14, t15⟩ : wy.cell? ⟨w.heap.size, 0, none⟩ = some (.int .i64 cx) ∧ wy.cell? ⟨w.heap.size, 1, none⟩ = some (.int .i64 cy) ∧ wy.cell? ⟨w.heap.size, 2, none⟩ = some (.int .i64 r) ∧ wy.cell? ⟨w.heap.size, 3, none⟩ = some (.int .i64 f) ∧ wy.cell? ⟨w.heap.size, 4, none⟩ = some (.int .i64 s) := by
          refine ⟨?_, ?_, ?_, ?_, ?_⟩ <;> (refine cell_below hbx ?_; repeat (first | (with_reducible assumption) | ((with_reducible refine cell_set ?_ ?_ _); (· first | (simp; done) | (simp; omega) | omega)) | ((with_reducible refine cell_new ?_ ?_); (· (simp; done)); (· rfl)) | (with_reducible refine cell_alloc ?_ _) | (with_reducible refine cell_drew ?_) | (with_reducible refine cell_drewN ?_ _) | (with_reducible refine cell_below (by assumption) ?_)))
        have zt11 : w.heap.size < wy.heap.size := World.block_lt_of_cell? _ _ t11
        clear f6 zf6 f7 f8 f9 f10
        go_wp2_with fail
        generalize hwwz : ((wy.setCell ⟨g, 4, none⟩ (.int .i64 t)).setCell ⟨h, 4, none⟩ (.int .i64 (s - t))) = wz
        have x16 : wz.cell? ⟨w.heap.size, 0, none⟩ = some (.int .i64 cx) := by
          rw [← hwwz]; exact (cell_set hw (cell_set gw t11 _) _)
        have x17 : wz.cell? ⟨w.heap.size, 1, none⟩ = some (.int .i64 cy) := by
          rw [← hwwz]; exact (cell_set hw (cell_set gw t12 _) _)
        have x18 : wz.cell? ⟨w.heap.size, 2, none⟩ = some (.int .i64 r) := by
          rw [← hwwz]; exact (cell_set hw (cell_set gw t13 _) _)
        have x19 : wz.cell? ⟨w.heap.size, 3, none⟩ = some (.int .i64 f) := by
          rw [← hwwz]; exact (cell_set hw (cell_set gw t14 _) _)
        have x20 : wz.cell? ⟨w.heap.size, 4, none⟩ = some (.int .i64 s) := by
          rw [← hwwz]; exact (cell_set hw (cell_set gw t15 _) _)
        have x21 : wz.cell? ⟨g, 0, none⟩ = some (.int .i64 cx) := by
          rw [← hwwz]; exact ((own_set (fun e => gh' (congrArg Addr.block e)) (own_set (by simp) ⟨a0, a0'⟩ _) _)).1
        have x22 : wz.cell? ⟨g, 1, none⟩ = some (.int .i64 cy) := by
          rw [← hwwz]; exact ((own_set (fun e => gh' (congrArg Addr.block e)) (own_set (by simp) ⟨a1, a1'⟩ _) _)).1
        have x23 : wz.cell? ⟨g, 2, none⟩ = some (.int .i64 r) := by
          rw [← hwwz]; exact ((own_set (fun e => gh' (congrArg Addr.block e)) (own_set (by simp) ⟨a2, a2'⟩ _) _)).1
        have x24 : wz.cell? ⟨g, 3, none⟩ = some (.int .i64 f) := by
          rw [← hwwz]; exact ((own_set (fun e => gh' (congrArg Addr.block e)) (own_set (by simp) ⟨a3, a3'⟩ _) _)).1
        have x25 : wz.cell? ⟨g, 4, none⟩ = some (.int .i64 t) := by
          rw [← hwwz]; exact ((own_set (fun e => gh' (congrArg Addr.block e)) (own_same ⟨a4, a4'⟩ _) _)).1
        have x26 : wz.cell? ⟨h, 0, none⟩ = some (.int .i64 cx) := by
          rw [← hwwz]; exact ((own_set (by simp) (own_set (fun e => gh (congrArg Addr.block e)) ⟨b0, b0'⟩ _) _)).1
        have x27 : wz.cell? ⟨h, 1, none⟩ = some (.int .i64 cy) := by
          rw [← hwwz]; exact ((own_set (by simp) (own_set (fun e => gh (congrArg Addr.block e)) ⟨b1, b1'⟩ _) _)).1
        have x28 : wz.cell? ⟨h, 2, none⟩ = some (.int .i64 r) := by
          rw [← hwwz]; exact ((own_set (by simp) (own_set (fun e => gh (congrArg Addr.block e)) ⟨b2, b2'⟩ _) _)).1
        have x29 : wz.cell? ⟨h, 3, none⟩ = some (.int .i64 f) := by
          rw [← hwwz]; exact ((own_set (by simp) (own_set (fun e => gh (congrArg Addr.block e)) ⟨b3, b3'⟩ _) _)).1
        have x30 : wz.cell? ⟨h, 4, none⟩ = some (.int .i64 (s - t)) := by
          rw [← hwwz]; exact ((own_same (own_set (fun e => gh (congrArg Addr.block e)) ⟨b4, b4'⟩ _) _)).1
        have Bwz : Below w.heap.size w wz := by
          rw [← hwwz]
          (repeat (with_reducible (first | assumption | exact Below.refl _ _ | refine Below.drew ?_ | refine below_drewN ?_ _ | refine below_set ?_ (by simp; try omega) _ | refine below_alloc ?_ (Nat.le_refl _) _ | refine below_sub (by assumption) ?_)))
        clear t11 zt11 t12 t13 t14 t15 a0 a0' a1 a1' a2 a2' a3 a3' a4 a4' b0 b0' b1 b1' b2 b2' b3 b3' b4 b4' hwwz
        have zzx16 : w.heap.size < wz.heap.size := World.block_lt_of_cell? _ _ x16
        have zzx21 : g < wz.heap.size := World.block_lt_of_cell? _ _ x21
        have zzx26 : h < wz.heap.size := World.block_lt_of_cell? _ _ x26
        go_region_held3 (fun w' => w'.cell? ⟨w.heap.size, 0, none⟩ = some (.int .i64 cx) ∧ w'.cell? ⟨w.heap.size, 1, none⟩ = some (.int .i64 cy) ∧ w'.cell? ⟨w.heap.size, 2, none⟩ = some (.int .i64 r) ∧ w'.cell? ⟨w.heap.size, 3, none⟩ = some (.int .i64 f) ∧ w'.cell? ⟨w.heap.size, 4, none⟩ = some (.int .i64 s) ∧ w'.cell? ⟨g, 0, none⟩ = some (.int .i64 cx) ∧ w'.cell? ⟨g, 1, none⟩ = some (.int .i64 cy) ∧ w'.cell? ⟨g, 2, none⟩ = some (.int .i64 r) ∧ w'.cell? ⟨g, 3, none⟩ = some (.int .i64 f) ∧ w'.cell? ⟨g, 4, none⟩ = some (.int .i64 t) ∧ w'.cell? ⟨h, 0, none⟩ = some (.int .i64 cx) ∧ w'.cell? ⟨h, 1, none⟩ = some (.int .i64 cy) ∧ w'.cell? ⟨h, 2, none⟩ = some (.int .i64 r) ∧ w'.cell? ⟨h, 3, none⟩ = some (.int .i64 f) ∧ w'.cell? ⟨h, 4, none⟩ = some (.int .i64 (s - t))) ((go_split_ands; refine ⟨?_, ?_, ?_, ?_, ?_, ?_, ?_, ?_, ?_, ?_, ?_, ?_, ?_, ?_, ?_⟩ <;> (repeat (first | (with_reducible assumption) | ((with_reducible refine cell_set ?_ ?_ _); (· first | (simp; done) | (simp; omega) | omega)) | ((with_reducible refine cell_new ?_ ?_); (· (simp; done)); (· rfl)) | (with_reducible refine cell_alloc ?_ _) | (with_reducible refine cell_drew ?_) | (with_reducible refine cell_drewN ?_ _) | (with_reducible refine cell_below (by assumption) ?_)))))
          (first
            | (go_at_call 23; (first | (with_reducible refine (L1 _).mono ?_) | (with_reducible refine (L2 _).mono ?_) | (with_reducible refine (L3 _).mono ?_)); rintro e w' ⟨rfl, hb'⟩)
            | (go_at_call 27; refine (near_true _ _ _ ?_ ?_ ?_ ?_ ?_ ?_ _).mono ?_; (· (first | omega | (rw [wn]; omega))); (· (first | omega | (rw [wn]; omega))); (· (first | omega | (rw [wn]; omega))); (· (first | omega | (rw [wn]; omega))); (· (first | omega | (rw [wn]; omega))); (· (first | omega | (rw [wn]; omega))); rintro e w' ⟨rfl, rfl⟩))
        rename_i hH
        obtain ⟨f31, f32, f33, f34, f35, f36, f37, f38, f39, f40, f41, f42, f43, f44, f45⟩ := hH
        have zf31 : w.heap.size < w'.heap.size := World.block_lt_of_cell? _ _ f31
        have zf36 : g < w'.heap.size := World.block_lt_of_cell? _ _ f36
        have zf41 : h < w'.heap.size := World.block_lt_of_cell? _ _ f41
        clear x16 zzx16 x17 x18 x19 x20 x21 zzx21 x22 x23 x24 x25 x26 zzx26 x27 x28 x29 x30
        go_wp2_with fail
        all_goals
          go_ret
          exact ⟨ret_bool (by first | rfl | (simp; done) | (simp; omega)), by (repeat (with_reducible (first | assumption | exact Below.refl _ _ | refine Below.drew ?_ | refine below_drewN ?_ _ | refine below_set ?_ (by simp; try omega) _ | refine below_alloc ?_ (Nat.le_refl _) _ | refine below_sub (by assumption) ?_)))⟩
    · have hub' := hub
      rw [decide_eq_false t1, decide_eq_true s1, if_neg (by simp)] at hub hsp
      rw [Int.sub_zero] at hsp
      have L1 := fun W => tlen_any cx cy r f 0 W
      have L2 := fun W => tlen_any cx cy r f (s) W
      have L3 := fun W => tlen_any cx cy r f s W
      have n1 := arcLen_bd cx cy r f 0
      have n2 := arcLen_bd cx cy r f (s)
      have n3 := arcLen_bd cx cy r f s
      have HB := hide hB
      clear hB hub hub'
      generalize arcLen cx cy r f 0 = l1 at *
      generalize arcLen cx cy r f (s) = l2 at *
      have wn := wi' (x := l1 + l2) (by omega) (by omega)
      clear hs'
      have sd : decide (s < 0) = true := decide_eq_true s1
      have td : decide (t < 0) = false := decide_eq_false t1
      go_enter Try.func4, Try.ntmps4
      go_wp2_with fail
      refine (awake12_any _).mono ?_
      rintro e w1 ⟨rfl, hb1⟩
      obtain ⟨f1, f2, f3, f4, f5⟩ : w1.cell? ⟨w.heap.size, 0, none⟩ = some (.int .i64 cx) ∧ w1.cell? ⟨w.heap.size, 1, none⟩ = some (.int .i64 cy) ∧ w1.cell? ⟨w.heap.size, 2, none⟩ = some (.int .i64 r) ∧ w1.cell? ⟨w.heap.size, 3, none⟩ = some (.int .i64 f) ∧ w1.cell? ⟨w.heap.size, 4, none⟩ = some (.int .i64 s) := by
        refine ⟨?_, ?_, ?_, ?_, ?_⟩ <;> (refine cell_below hb1 ?_; repeat (first | (with_reducible assumption) | ((with_reducible refine cell_set ?_ ?_ _); (· first | (simp; done) | (simp; omega) | omega)) | ((with_reducible refine cell_new ?_ ?_); (· (simp; done)); (· rfl)) | (with_reducible refine cell_alloc ?_ _) | (with_reducible refine cell_drew ?_) | (with_reducible refine cell_drewN ?_ _) | (with_reducible refine cell_below (by assumption) ?_)))
      have zf1 : w.heap.size < w1.heap.size := World.block_lt_of_cell? _ _ f1
      go_wp2_with fail
      refine (tvalid_any cx cy r f s _).mono ?_
      rintro e w2 ⟨rfl, hb2⟩
      rw [HB.out]
      obtain ⟨f6, f7, f8, f9, f10⟩ : w2.cell? ⟨w.heap.size, 0, none⟩ = some (.int .i64 cx) ∧ w2.cell? ⟨w.heap.size, 1, none⟩ = some (.int .i64 cy) ∧ w2.cell? ⟨w.heap.size, 2, none⟩ = some (.int .i64 r) ∧ w2.cell? ⟨w.heap.size, 3, none⟩ = some (.int .i64 f) ∧ w2.cell? ⟨w.heap.size, 4, none⟩ = some (.int .i64 s) := by
        refine ⟨?_, ?_, ?_, ?_, ?_⟩ <;> (refine cell_below hb2 ?_; repeat (first | (with_reducible assumption) | ((with_reducible refine cell_set ?_ ?_ _); (· first | (simp; done) | (simp; omega) | omega)) | ((with_reducible refine cell_new ?_ ?_); (· (simp; done)); (· rfl)) | (with_reducible refine cell_alloc ?_ _) | (with_reducible refine cell_drew ?_) | (with_reducible refine cell_drewN ?_ _) | (with_reducible refine cell_below (by assumption) ?_)))
      have zf6 : w.heap.size < w2.heap.size := World.block_lt_of_cell? _ _ f6
      clear f1 zf1 f2 f3 f4 f5
      go_wp2_with fail
      go_cut [5, 6] (fun sA sB wx => ∃ (g h : Nat) (wy : World), sA = .pointer (some ⟨g, 0, none⟩) ∧ sB = .pointer (some ⟨h, 0, none⟩) ∧ wy = wx ∧ (g ≠ h ∧ w2.heap.size ≤ g ∧ w2.heap.size ≤ h) ∧ ((wy.cell? ⟨g, 0, none⟩ = some (.int .i64 cx) ∧ wy.frozen? ⟨g, 0, none⟩ = false) ∧ (wy.cell? ⟨g, 1, none⟩ = some (.int .i64 cy) ∧ wy.frozen? ⟨g, 1, none⟩ = false) ∧ (wy.cell? ⟨g, 2, none⟩ = some (.int .i64 r) ∧ wy.frozen? ⟨g, 2, none⟩ = false) ∧ (wy.cell? ⟨g, 3, none⟩ = some (.int .i64 f) ∧ wy.frozen? ⟨g, 3, none⟩ = false) ∧ (wy.cell? ⟨g, 4, none⟩ = some (.int .i64 s) ∧ wy.frozen? ⟨g, 4, none⟩ = false)) ∧ ((wy.cell? ⟨h, 0, none⟩ = some (.int .i64 cx) ∧ wy.frozen? ⟨h, 0, none⟩ = false) ∧ (wy.cell? ⟨h, 1, none⟩ = some (.int .i64 cy) ∧ wy.frozen? ⟨h, 1, none⟩ = false) ∧ (wy.cell? ⟨h, 2, none⟩ = some (.int .i64 r) ∧ wy.frozen? ⟨h, 2, none⟩ = false) ∧ (wy.cell? ⟨h, 3, none⟩ = some (.int .i64 f) ∧ wy.frozen? ⟨h, 3, none⟩ = false) ∧ (wy.cell? ⟨h, 4, none⟩ = some (.int .i64 s) ∧ wy.frozen? ⟨h, 4, none⟩ = false)) ∧ Below w2.heap.size w2 wy)
      case first =>
        go_region_held3 (fun w' => w'.cell? ⟨w.heap.size, 0, none⟩ = some (.int .i64 cx) ∧ w'.cell? ⟨w.heap.size, 1, none⟩ = some (.int .i64 cy) ∧ w'.cell? ⟨w.heap.size, 2, none⟩ = some (.int .i64 r) ∧ w'.cell? ⟨w.heap.size, 3, none⟩ = some (.int .i64 f) ∧ w'.cell? ⟨w.heap.size, 4, none⟩ = some (.int .i64 s))
          (go_keep)
          (first | fail)
        all_goals
          go_wp2_with fail
          go_meet
          refine ⟨_, _, _, rfl, rfl, rfl, ⟨by simp, by simp, by simp⟩, ?_, ?_, ?_⟩
          · refine ⟨?_, ?_, ?_, ?_, ?_⟩ <;> (repeat (first | (refine ⟨?_, ?_⟩ <;> (with_reducible assumption)) | (with_reducible apply own_same) | ((with_reducible refine own_set ?_ ?_ _); (· first | (simp; done) | (simp; omega))) | ((with_reducible refine own_new ?_ ?_); (· (simp; done)); (· rfl)) | (with_reducible refine own_alloc ?_ _) | (with_reducible refine own_drew ?_) | (with_reducible refine own_drewN ?_ _) | (with_reducible refine own_below (by assumption) ?_)))
          · refine ⟨?_, ?_, ?_, ?_, ?_⟩ <;> (repeat (first | (refine ⟨?_, ?_⟩ <;> (with_reducible assumption)) | (with_reducible apply own_same) | ((with_reducible refine own_set ?_ ?_ _); (· first | (simp; done) | (simp; omega))) | ((with_reducible refine own_new ?_ ?_); (· (simp; done)); (· rfl)) | (with_reducible refine own_alloc ?_ _) | (with_reducible refine own_drew ?_) | (with_reducible refine own_drewN ?_ _) | (with_reducible refine own_below (by assumption) ?_)))
          · (repeat (with_reducible (first | assumption | exact Below.refl _ _ | refine Below.drew ?_ | refine below_drewN ?_ _ | refine below_set ?_ (by simp; try omega) _ | refine below_alloc ?_ (Nat.le_refl _) _ | refine below_sub (by assumption) ?_)))
      case rest =>
        obtain ⟨g, h, wy, rfl, rfl, rfl, ⟨gh, hg1, hh1⟩, ⟨⟨a0, a0'⟩, ⟨a1, a1'⟩, ⟨a2, a2'⟩, ⟨a3, a3'⟩, ⟨a4, a4'⟩⟩, ⟨⟨b0, b0'⟩, ⟨b1, b1'⟩, ⟨b2, b2'⟩, ⟨b3, b3'⟩, ⟨b4, b4'⟩⟩, hbx⟩ := hcut
        have gh' : h ≠ g := fun e => gh e.symm
        have gw : g ≠ w.heap.size := by omega
        have gw' : w.heap.size ≠ g := by omega
        have hw : h ≠ w.heap.size := by omega
        have hw' : w.heap.size ≠ h := by omega
        have gL : w.heap.size ≤ g := by omega
        have hL : w.heap.size ≤ h := by omega
        obtain ⟨t11, t12, t13, t14, t15⟩ : wy.cell? ⟨w.heap.size, 0, none⟩ = some (.int .i64 cx) ∧ wy.cell? ⟨w.heap.size, 1, none⟩ = some (.int .i64 cy) ∧ wy.cell? ⟨w.heap.size, 2, none⟩ = some (.int .i64 r) ∧ wy.cell? ⟨w.heap.size, 3, none⟩ = some (.int .i64 f) ∧ wy.cell? ⟨w.heap.size, 4, none⟩ = some (.int .i64 s) := by
          refine ⟨?_, ?_, ?_, ?_, ?_⟩ <;> (refine cell_below hbx ?_; repeat (first | (with_reducible assumption) | ((with_reducible refine cell_set ?_ ?_ _); (· first | (simp; done) | (simp; omega) | omega)) | ((with_reducible refine cell_new ?_ ?_); (· (simp; done)); (· rfl)) | (with_reducible refine cell_alloc ?_ _) | (with_reducible refine cell_drew ?_) | (with_reducible refine cell_drewN ?_ _) | (with_reducible refine cell_below (by assumption) ?_)))
        have zt11 : w.heap.size < wy.heap.size := World.block_lt_of_cell? _ _ t11
        clear f6 zf6 f7 f8 f9 f10
        go_wp2_with fail
        generalize hwwz : (((wy.setCell ⟨g, 4, none⟩ (.int .i64 t)).setCell ⟨g, 4, none⟩ (.int .i64 0)).setCell ⟨h, 4, none⟩ (.int .i64 s)) = wz
        have x16 : wz.cell? ⟨w.heap.size, 0, none⟩ = some (.int .i64 cx) := by
          rw [← hwwz]; exact (cell_set hw (cell_set gw (cell_set gw t11 _) _) _)
        have x17 : wz.cell? ⟨w.heap.size, 1, none⟩ = some (.int .i64 cy) := by
          rw [← hwwz]; exact (cell_set hw (cell_set gw (cell_set gw t12 _) _) _)
        have x18 : wz.cell? ⟨w.heap.size, 2, none⟩ = some (.int .i64 r) := by
          rw [← hwwz]; exact (cell_set hw (cell_set gw (cell_set gw t13 _) _) _)
        have x19 : wz.cell? ⟨w.heap.size, 3, none⟩ = some (.int .i64 f) := by
          rw [← hwwz]; exact (cell_set hw (cell_set gw (cell_set gw t14 _) _) _)
        have x20 : wz.cell? ⟨w.heap.size, 4, none⟩ = some (.int .i64 s) := by
          rw [← hwwz]; exact (cell_set hw (cell_set gw (cell_set gw t15 _) _) _)
        have x21 : wz.cell? ⟨g, 0, none⟩ = some (.int .i64 cx) := by
          rw [← hwwz]; exact ((own_set (fun e => gh' (congrArg Addr.block e)) (own_set (by simp) (own_set (by simp) ⟨a0, a0'⟩ _) _) _)).1
        have x22 : wz.cell? ⟨g, 1, none⟩ = some (.int .i64 cy) := by
          rw [← hwwz]; exact ((own_set (fun e => gh' (congrArg Addr.block e)) (own_set (by simp) (own_set (by simp) ⟨a1, a1'⟩ _) _) _)).1
        have x23 : wz.cell? ⟨g, 2, none⟩ = some (.int .i64 r) := by
          rw [← hwwz]; exact ((own_set (fun e => gh' (congrArg Addr.block e)) (own_set (by simp) (own_set (by simp) ⟨a2, a2'⟩ _) _) _)).1
        have x24 : wz.cell? ⟨g, 3, none⟩ = some (.int .i64 f) := by
          rw [← hwwz]; exact ((own_set (fun e => gh' (congrArg Addr.block e)) (own_set (by simp) (own_set (by simp) ⟨a3, a3'⟩ _) _) _)).1
        have x25 : wz.cell? ⟨g, 4, none⟩ = some (.int .i64 0) := by
          rw [← hwwz]; exact ((own_set (fun e => gh' (congrArg Addr.block e)) (own_same (own_same ⟨a4, a4'⟩ _) _) _)).1
        have x26 : wz.cell? ⟨h, 0, none⟩ = some (.int .i64 cx) := by
          rw [← hwwz]; exact ((own_set (by simp) (own_set (fun e => gh (congrArg Addr.block e)) (own_set (fun e => gh (congrArg Addr.block e)) ⟨b0, b0'⟩ _) _) _)).1
        have x27 : wz.cell? ⟨h, 1, none⟩ = some (.int .i64 cy) := by
          rw [← hwwz]; exact ((own_set (by simp) (own_set (fun e => gh (congrArg Addr.block e)) (own_set (fun e => gh (congrArg Addr.block e)) ⟨b1, b1'⟩ _) _) _)).1
        have x28 : wz.cell? ⟨h, 2, none⟩ = some (.int .i64 r) := by
          rw [← hwwz]; exact ((own_set (by simp) (own_set (fun e => gh (congrArg Addr.block e)) (own_set (fun e => gh (congrArg Addr.block e)) ⟨b2, b2'⟩ _) _) _)).1
        have x29 : wz.cell? ⟨h, 3, none⟩ = some (.int .i64 f) := by
          rw [← hwwz]; exact ((own_set (by simp) (own_set (fun e => gh (congrArg Addr.block e)) (own_set (fun e => gh (congrArg Addr.block e)) ⟨b3, b3'⟩ _) _) _)).1
        have x30 : wz.cell? ⟨h, 4, none⟩ = some (.int .i64 s) := by
          rw [← hwwz]; exact ((own_same (own_set (fun e => gh (congrArg Addr.block e)) (own_set (fun e => gh (congrArg Addr.block e)) ⟨b4, b4'⟩ _) _) _)).1
        have Bwz : Below w.heap.size w wz := by
          rw [← hwwz]
          (repeat (with_reducible (first | assumption | exact Below.refl _ _ | refine Below.drew ?_ | refine below_drewN ?_ _ | refine below_set ?_ (by simp; try omega) _ | refine below_alloc ?_ (Nat.le_refl _) _ | refine below_sub (by assumption) ?_)))
        clear t11 zt11 t12 t13 t14 t15 a0 a0' a1 a1' a2 a2' a3 a3' a4 a4' b0 b0' b1 b1' b2 b2' b3 b3' b4 b4' hwwz
        have zzx16 : w.heap.size < wz.heap.size := World.block_lt_of_cell? _ _ x16
        have zzx21 : g < wz.heap.size := World.block_lt_of_cell? _ _ x21
        have zzx26 : h < wz.heap.size := World.block_lt_of_cell? _ _ x26
        go_region_held3 (fun w' => w'.cell? ⟨w.heap.size, 0, none⟩ = some (.int .i64 cx) ∧ w'.cell? ⟨w.heap.size, 1, none⟩ = some (.int .i64 cy) ∧ w'.cell? ⟨w.heap.size, 2, none⟩ = some (.int .i64 r) ∧ w'.cell? ⟨w.heap.size, 3, none⟩ = some (.int .i64 f) ∧ w'.cell? ⟨w.heap.size, 4, none⟩ = some (.int .i64 s) ∧ w'.cell? ⟨g, 0, none⟩ = some (.int .i64 cx) ∧ w'.cell? ⟨g, 1, none⟩ = some (.int .i64 cy) ∧ w'.cell? ⟨g, 2, none⟩ = some (.int .i64 r) ∧ w'.cell? ⟨g, 3, none⟩ = some (.int .i64 f) ∧ w'.cell? ⟨g, 4, none⟩ = some (.int .i64 0) ∧ w'.cell? ⟨h, 0, none⟩ = some (.int .i64 cx) ∧ w'.cell? ⟨h, 1, none⟩ = some (.int .i64 cy) ∧ w'.cell? ⟨h, 2, none⟩ = some (.int .i64 r) ∧ w'.cell? ⟨h, 3, none⟩ = some (.int .i64 f) ∧ w'.cell? ⟨h, 4, none⟩ = some (.int .i64 s)) ((go_split_ands; refine ⟨?_, ?_, ?_, ?_, ?_, ?_, ?_, ?_, ?_, ?_, ?_, ?_, ?_, ?_, ?_⟩ <;> (repeat (first | (with_reducible assumption) | ((with_reducible refine cell_set ?_ ?_ _); (· first | (simp; done) | (simp; omega) | omega)) | ((with_reducible refine cell_new ?_ ?_); (· (simp; done)); (· rfl)) | (with_reducible refine cell_alloc ?_ _) | (with_reducible refine cell_drew ?_) | (with_reducible refine cell_drewN ?_ _) | (with_reducible refine cell_below (by assumption) ?_)))))
          (first
            | (go_at_call 23; (first | (with_reducible refine (L1 _).mono ?_) | (with_reducible refine (L2 _).mono ?_) | (with_reducible refine (L3 _).mono ?_)); rintro e w' ⟨rfl, hb'⟩)
            | (go_at_call 27; refine (near_true _ _ _ ?_ ?_ ?_ ?_ ?_ ?_ _).mono ?_; (· (first | omega | (rw [wn]; omega))); (· (first | omega | (rw [wn]; omega))); (· (first | omega | (rw [wn]; omega))); (· (first | omega | (rw [wn]; omega))); (· (first | omega | (rw [wn]; omega))); (· (first | omega | (rw [wn]; omega))); rintro e w' ⟨rfl, rfl⟩))
        rename_i hH
        obtain ⟨f31, f32, f33, f34, f35, f36, f37, f38, f39, f40, f41, f42, f43, f44, f45⟩ := hH
        have zf31 : w.heap.size < w'.heap.size := World.block_lt_of_cell? _ _ f31
        have zf36 : g < w'.heap.size := World.block_lt_of_cell? _ _ f36
        have zf41 : h < w'.heap.size := World.block_lt_of_cell? _ _ f41
        clear x16 zzx16 x17 x18 x19 x20 x21 zzx21 x22 x23 x24 x25 x26 zzx26 x27 x28 x29 x30
        go_wp2_with fail
        all_goals
          go_ret
          exact ⟨ret_bool (by first | rfl | (simp; done) | (simp; omega)), by (repeat (with_reducible (first | assumption | exact Below.refl _ _ | refine Below.drew ?_ | refine below_drewN ?_ _ | refine below_set ?_ (by simp; try omega) _ | refine below_alloc ?_ (Nat.le_refl _) _ | refine below_sub (by assumption) ?_)))⟩
  · by_cases t1 : t < 0
    · have hub' := hub
      rw [decide_eq_true t1, decide_eq_false s1, if_neg (by simp)] at hub hsp
      rw [Int.sub_zero] at hsp
      have L1 := fun W => tlen_any cx cy r f 0 W
      have L2 := fun W => tlen_any cx cy r f (s) W
      have L3 := fun W => tlen_any cx cy r f s W
      have n1 := arcLen_bd cx cy r f 0
      have n2 := arcLen_bd cx cy r f (s)
      have n3 := arcLen_bd cx cy r f s
      have HB := hide hB
      clear hB hub hub'
      generalize arcLen cx cy r f 0 = l1 at *
      generalize arcLen cx cy r f (s) = l2 at *
      have wn := wi' (x := l1 + l2) (by omega) (by omega)
      clear hs'
      have sd : decide (s < 0) = false := decide_eq_false s1
      have td : decide (t < 0) = true := decide_eq_true t1
      go_enter Try.func4, Try.ntmps4
      go_wp2_with fail
      refine (awake12_any _).mono ?_
      rintro e w1 ⟨rfl, hb1⟩
      obtain ⟨f1, f2, f3, f4, f5⟩ : w1.cell? ⟨w.heap.size, 0, none⟩ = some (.int .i64 cx) ∧ w1.cell? ⟨w.heap.size, 1, none⟩ = some (.int .i64 cy) ∧ w1.cell? ⟨w.heap.size, 2, none⟩ = some (.int .i64 r) ∧ w1.cell? ⟨w.heap.size, 3, none⟩ = some (.int .i64 f) ∧ w1.cell? ⟨w.heap.size, 4, none⟩ = some (.int .i64 s) := by
        refine ⟨?_, ?_, ?_, ?_, ?_⟩ <;> (refine cell_below hb1 ?_; repeat (first | (with_reducible assumption) | ((with_reducible refine cell_set ?_ ?_ _); (· first | (simp; done) | (simp; omega) | omega)) | ((with_reducible refine cell_new ?_ ?_); (· (simp; done)); (· rfl)) | (with_reducible refine cell_alloc ?_ _) | (with_reducible refine cell_drew ?_) | (with_reducible refine cell_drewN ?_ _) | (with_reducible refine cell_below (by assumption) ?_)))
      have zf1 : w.heap.size < w1.heap.size := World.block_lt_of_cell? _ _ f1
      go_wp2_with fail
      refine (tvalid_any cx cy r f s _).mono ?_
      rintro e w2 ⟨rfl, hb2⟩
      rw [HB.out]
      obtain ⟨f6, f7, f8, f9, f10⟩ : w2.cell? ⟨w.heap.size, 0, none⟩ = some (.int .i64 cx) ∧ w2.cell? ⟨w.heap.size, 1, none⟩ = some (.int .i64 cy) ∧ w2.cell? ⟨w.heap.size, 2, none⟩ = some (.int .i64 r) ∧ w2.cell? ⟨w.heap.size, 3, none⟩ = some (.int .i64 f) ∧ w2.cell? ⟨w.heap.size, 4, none⟩ = some (.int .i64 s) := by
        refine ⟨?_, ?_, ?_, ?_, ?_⟩ <;> (refine cell_below hb2 ?_; repeat (first | (with_reducible assumption) | ((with_reducible refine cell_set ?_ ?_ _); (· first | (simp; done) | (simp; omega) | omega)) | ((with_reducible refine cell_new ?_ ?_); (· (simp; done)); (· rfl)) | (with_reducible refine cell_alloc ?_ _) | (with_reducible refine cell_drew ?_) | (with_reducible refine cell_drewN ?_ _) | (with_reducible refine cell_below (by assumption) ?_)))
      have zf6 : w.heap.size < w2.heap.size := World.block_lt_of_cell? _ _ f6
      clear f1 zf1 f2 f3 f4 f5
      go_wp2_with fail
      go_cut [5, 6] (fun sA sB wx => ∃ (g h : Nat) (wy : World), sA = .pointer (some ⟨g, 0, none⟩) ∧ sB = .pointer (some ⟨h, 0, none⟩) ∧ wy = wx ∧ (g ≠ h ∧ w2.heap.size ≤ g ∧ w2.heap.size ≤ h) ∧ ((wy.cell? ⟨g, 0, none⟩ = some (.int .i64 cx) ∧ wy.frozen? ⟨g, 0, none⟩ = false) ∧ (wy.cell? ⟨g, 1, none⟩ = some (.int .i64 cy) ∧ wy.frozen? ⟨g, 1, none⟩ = false) ∧ (wy.cell? ⟨g, 2, none⟩ = some (.int .i64 r) ∧ wy.frozen? ⟨g, 2, none⟩ = false) ∧ (wy.cell? ⟨g, 3, none⟩ = some (.int .i64 f) ∧ wy.frozen? ⟨g, 3, none⟩ = false) ∧ (wy.cell? ⟨g, 4, none⟩ = some (.int .i64 s) ∧ wy.frozen? ⟨g, 4, none⟩ = false)) ∧ ((wy.cell? ⟨h, 0, none⟩ = some (.int .i64 cx) ∧ wy.frozen? ⟨h, 0, none⟩ = false) ∧ (wy.cell? ⟨h, 1, none⟩ = some (.int .i64 cy) ∧ wy.frozen? ⟨h, 1, none⟩ = false) ∧ (wy.cell? ⟨h, 2, none⟩ = some (.int .i64 r) ∧ wy.frozen? ⟨h, 2, none⟩ = false) ∧ (wy.cell? ⟨h, 3, none⟩ = some (.int .i64 f) ∧ wy.frozen? ⟨h, 3, none⟩ = false) ∧ (wy.cell? ⟨h, 4, none⟩ = some (.int .i64 s) ∧ wy.frozen? ⟨h, 4, none⟩ = false)) ∧ Below w2.heap.size w2 wy)
      case first =>
        go_region_held3 (fun w' => w'.cell? ⟨w.heap.size, 0, none⟩ = some (.int .i64 cx) ∧ w'.cell? ⟨w.heap.size, 1, none⟩ = some (.int .i64 cy) ∧ w'.cell? ⟨w.heap.size, 2, none⟩ = some (.int .i64 r) ∧ w'.cell? ⟨w.heap.size, 3, none⟩ = some (.int .i64 f) ∧ w'.cell? ⟨w.heap.size, 4, none⟩ = some (.int .i64 s))
          (go_keep)
          (first | fail)
        all_goals
          go_wp2_with fail
          go_meet
          refine ⟨_, _, _, rfl, rfl, rfl, ⟨by simp, by simp, by simp⟩, ?_, ?_, ?_⟩
          · refine ⟨?_, ?_, ?_, ?_, ?_⟩ <;> (repeat (first | (refine ⟨?_, ?_⟩ <;> (with_reducible assumption)) | (with_reducible apply own_same) | ((with_reducible refine own_set ?_ ?_ _); (· first | (simp; done) | (simp; omega))) | ((with_reducible refine own_new ?_ ?_); (· (simp; done)); (· rfl)) | (with_reducible refine own_alloc ?_ _) | (with_reducible refine own_drew ?_) | (with_reducible refine own_drewN ?_ _) | (with_reducible refine own_below (by assumption) ?_)))
          · refine ⟨?_, ?_, ?_, ?_, ?_⟩ <;> (repeat (first | (refine ⟨?_, ?_⟩ <;> (with_reducible assumption)) | (with_reducible apply own_same) | ((with_reducible refine own_set ?_ ?_ _); (· first | (simp; done) | (simp; omega))) | ((with_reducible refine own_new ?_ ?_); (· (simp; done)); (· rfl)) | (with_reducible refine own_alloc ?_ _) | (with_reducible refine own_drew ?_) | (with_reducible refine own_drewN ?_ _) | (with_reducible refine own_below (by assumption) ?_)))
          · (repeat (with_reducible (first | assumption | exact Below.refl _ _ | refine Below.drew ?_ | refine below_drewN ?_ _ | refine below_set ?_ (by simp; try omega) _ | refine below_alloc ?_ (Nat.le_refl _) _ | refine below_sub (by assumption) ?_)))
      case rest =>
        obtain ⟨g, h, wy, rfl, rfl, rfl, ⟨gh, hg1, hh1⟩, ⟨⟨a0, a0'⟩, ⟨a1, a1'⟩, ⟨a2, a2'⟩, ⟨a3, a3'⟩, ⟨a4, a4'⟩⟩, ⟨⟨b0, b0'⟩, ⟨b1, b1'⟩, ⟨b2, b2'⟩, ⟨b3, b3'⟩, ⟨b4, b4'⟩⟩, hbx⟩ := hcut
        have gh' : h ≠ g := fun e => gh e.symm
        have gw : g ≠ w.heap.size := by omega
        have gw' : w.heap.size ≠ g := by omega
        have hw : h ≠ w.heap.size := by omega
        have hw' : w.heap.size ≠ h := by omega
        have gL : w.heap.size ≤ g := by omega
        have hL : w.heap.size ≤ h := by omega
        obtain ⟨t11, t12, t13, t14, t15⟩ : wy.cell? ⟨w.heap.size, 0, none⟩ = some (.int .i64 cx) ∧ wy.cell? ⟨w.heap.size, 1, none⟩ = some (.int .i64 cy) ∧ wy.cell? ⟨w.heap.size, 2, none⟩ = some (.int .i64 r) ∧ wy.cell? ⟨w.heap.size, 3, none⟩ = some (.int .i64 f) ∧ wy.cell? ⟨w.heap.size, 4, none⟩ = some (.int .i64 s) := by
          refine ⟨?_, ?_, ?_, ?_, ?_⟩ <;> (refine cell_below hbx ?_; repeat (first | (with_reducible assumption) | ((with_reducible refine cell_set ?_ ?_ _); (· first | (simp; done) | (simp; omega) | omega)) | ((with_reducible refine cell_new ?_ ?_); (· (simp; done)); (· rfl)) | (with_reducible refine cell_alloc ?_ _) | (with_reducible refine cell_drew ?_) | (with_reducible refine cell_drewN ?_ _) | (with_reducible refine cell_below (by assumption) ?_)))
        have zt11 : w.heap.size < wy.heap.size := World.block_lt_of_cell? _ _ t11
        clear f6 zf6 f7 f8 f9 f10
        go_wp2_with fail
        generalize hwwz : (((wy.setCell ⟨g, 4, none⟩ (.int .i64 t)).setCell ⟨g, 4, none⟩ (.int .i64 0)).setCell ⟨h, 4, none⟩ (.int .i64 s)) = wz
        have x16 : wz.cell? ⟨w.heap.size, 0, none⟩ = some (.int .i64 cx) := by
          rw [← hwwz]; exact (cell_set hw (cell_set gw (cell_set gw t11 _) _) _)
        have x17 : wz.cell? ⟨w.heap.size, 1, none⟩ = some (.int .i64 cy) := by
          rw [← hwwz]; exact (cell_set hw (cell_set gw (cell_set gw t12 _) _) _)
        have x18 : wz.cell? ⟨w.heap.size, 2, none⟩ = some (.int .i64 r) := by
          rw [← hwwz]; exact (cell_set hw (cell_set gw (cell_set gw t13 _) _) _)
        have x19 : wz.cell? ⟨w.heap.size, 3, none⟩ = some (.int .i64 f) := by
          rw [← hwwz]; exact (cell_set hw (cell_set gw (cell_set gw t14 _) _) _)
        have x20 : wz.cell? ⟨w.heap.size, 4, none⟩ = some (.int .i64 s) := by
          rw [← hwwz]; exact (cell_set hw (cell_set gw (cell_set gw t15 _) _) _)
        have x21 : wz.cell? ⟨g, 0, none⟩ = some (.int .i64 cx) := by
          rw [← hwwz]; exact ((own_set (fun e => gh' (congrArg Addr.block e)) (own_set (by simp) (own_set (by simp) ⟨a0, a0'⟩ _) _) _)).1
        have x22 : wz.cell? ⟨g, 1, none⟩ = some (.int .i64 cy) := by
          rw [← hwwz]; exact ((own_set (fun e => gh' (congrArg Addr.block e)) (own_set (by simp) (own_set (by simp) ⟨a1, a1'⟩ _) _) _)).1
        have x23 : wz.cell? ⟨g, 2, none⟩ = some (.int .i64 r) := by
          rw [← hwwz]; exact ((own_set (fun e => gh' (congrArg Addr.block e)) (own_set (by simp) (own_set (by simp) ⟨a2, a2'⟩ _) _) _)).1
        have x24 : wz.cell? ⟨g, 3, none⟩ = some (.int .i64 f) := by
          rw [← hwwz]; exact ((own_set (fun e => gh' (congrArg Addr.block e)) (own_set (by simp) (own_set (by simp) ⟨a3, a3'⟩ _) _) _)).1
        have x25 : wz.cell? ⟨g, 4, none⟩ = some (.int .i64 0) := by
          rw [← hwwz]; exact ((own_set (fun e => gh' (congrArg Addr.block e)) (own_same (own_same ⟨a4, a4'⟩ _) _) _)).1
        have x26 : wz.cell? ⟨h, 0, none⟩ = some (.int .i64 cx) := by
          rw [← hwwz]; exact ((own_set (by simp) (own_set (fun e => gh (congrArg Addr.block e)) (own_set (fun e => gh (congrArg Addr.block e)) ⟨b0, b0'⟩ _) _) _)).1
        have x27 : wz.cell? ⟨h, 1, none⟩ = some (.int .i64 cy) := by
          rw [← hwwz]; exact ((own_set (by simp) (own_set (fun e => gh (congrArg Addr.block e)) (own_set (fun e => gh (congrArg Addr.block e)) ⟨b1, b1'⟩ _) _) _)).1
        have x28 : wz.cell? ⟨h, 2, none⟩ = some (.int .i64 r) := by
          rw [← hwwz]; exact ((own_set (by simp) (own_set (fun e => gh (congrArg Addr.block e)) (own_set (fun e => gh (congrArg Addr.block e)) ⟨b2, b2'⟩ _) _) _)).1
        have x29 : wz.cell? ⟨h, 3, none⟩ = some (.int .i64 f) := by
          rw [← hwwz]; exact ((own_set (by simp) (own_set (fun e => gh (congrArg Addr.block e)) (own_set (fun e => gh (congrArg Addr.block e)) ⟨b3, b3'⟩ _) _) _)).1
        have x30 : wz.cell? ⟨h, 4, none⟩ = some (.int .i64 s) := by
          rw [← hwwz]; exact ((own_same (own_set (fun e => gh (congrArg Addr.block e)) (own_set (fun e => gh (congrArg Addr.block e)) ⟨b4, b4'⟩ _) _) _)).1
        have Bwz : Below w.heap.size w wz := by
          rw [← hwwz]
          (repeat (with_reducible (first | assumption | exact Below.refl _ _ | refine Below.drew ?_ | refine below_drewN ?_ _ | refine below_set ?_ (by simp; try omega) _ | refine below_alloc ?_ (Nat.le_refl _) _ | refine below_sub (by assumption) ?_)))
        clear t11 zt11 t12 t13 t14 t15 a0 a0' a1 a1' a2 a2' a3 a3' a4 a4' b0 b0' b1 b1' b2 b2' b3 b3' b4 b4' hwwz
        have zzx16 : w.heap.size < wz.heap.size := World.block_lt_of_cell? _ _ x16
        have zzx21 : g < wz.heap.size := World.block_lt_of_cell? _ _ x21
        have zzx26 : h < wz.heap.size := World.block_lt_of_cell? _ _ x26
        go_region_held3 (fun w' => w'.cell? ⟨w.heap.size, 0, none⟩ = some (.int .i64 cx) ∧ w'.cell? ⟨w.heap.size, 1, none⟩ = some (.int .i64 cy) ∧ w'.cell? ⟨w.heap.size, 2, none⟩ = some (.int .i64 r) ∧ w'.cell? ⟨w.heap.size, 3, none⟩ = some (.int .i64 f) ∧ w'.cell? ⟨w.heap.size, 4, none⟩ = some (.int .i64 s) ∧ w'.cell? ⟨g, 0, none⟩ = some (.int .i64 cx) ∧ w'.cell? ⟨g, 1, none⟩ = some (.int .i64 cy) ∧ w'.cell? ⟨g, 2, none⟩ = some (.int .i64 r) ∧ w'.cell? ⟨g, 3, none⟩ = some (.int .i64 f) ∧ w'.cell? ⟨g, 4, none⟩ = some (.int .i64 0) ∧ w'.cell? ⟨h, 0, none⟩ = some (.int .i64 cx) ∧ w'.cell? ⟨h, 1, none⟩ = some (.int .i64 cy) ∧ w'.cell? ⟨h, 2, none⟩ = some (.int .i64 r) ∧ w'.cell? ⟨h, 3, none⟩ = some (.int .i64 f) ∧ w'.cell? ⟨h, 4, none⟩ = some (.int .i64 s)) ((go_split_ands; refine ⟨?_, ?_, ?_, ?_, ?_, ?_, ?_, ?_, ?_, ?_, ?_, ?_, ?_, ?_, ?_⟩ <;> (repeat (first | (with_reducible assumption) | ((with_reducible refine cell_set ?_ ?_ _); (· first | (simp; done) | (simp; omega) | omega)) | ((with_reducible refine cell_new ?_ ?_); (· (simp; done)); (· rfl)) | (with_reducible refine cell_alloc ?_ _) | (with_reducible refine cell_drew ?_) | (with_reducible refine cell_drewN ?_ _) | (with_reducible refine cell_below (by assumption) ?_)))))
          (first
            | (go_at_call 23; (first | (with_reducible refine (L1 _).mono ?_) | (with_reducible refine (L2 _).mono ?_) | (with_reducible refine (L3 _).mono ?_)); rintro e w' ⟨rfl, hb'⟩)
            | (go_at_call 27; refine (near_true _ _ _ ?_ ?_ ?_ ?_ ?_ ?_ _).mono ?_; (· (first | omega | (rw [wn]; omega))); (· (first | omega | (rw [wn]; omega))); (· (first | omega | (rw [wn]; omega))); (· (first | omega | (rw [wn]; omega))); (· (first | omega | (rw [wn]; omega))); (· (first | omega | (rw [wn]; omega))); rintro e w' ⟨rfl, rfl⟩))
        rename_i hH
        obtain ⟨f31, f32, f33, f34, f35, f36, f37, f38, f39, f40, f41, f42, f43, f44, f45⟩ := hH
        have zf31 : w.heap.size < w'.heap.size := World.block_lt_of_cell? _ _ f31
        have zf36 : g < w'.heap.size := World.block_lt_of_cell? _ _ f36
        have zf41 : h < w'.heap.size := World.block_lt_of_cell? _ _ f41
        clear x16 zzx16 x17 x18 x19 x20 x21 zzx21 x22 x23 x24 x25 x26 zzx26 x27 x28 x29 x30
        go_wp2_with fail
        all_goals
          go_ret
          exact ⟨ret_bool (by first | rfl | (simp; done) | (simp; omega)), by (repeat (with_reducible (first | assumption | exact Below.refl _ _ | refine Below.drew ?_ | refine below_drewN ?_ _ | refine below_set ?_ (by simp; try omega) _ | refine below_alloc ?_ (Nat.le_refl _) _ | refine below_sub (by assumption) ?_)))⟩
    · have hub' := hub
      rw [decide_eq_false t1, decide_eq_false s1, if_pos rfl] at hub hsp
      have L1 := fun W => tlen_any cx cy r f t W
      have L2 := fun W => tlen_any cx cy r f (s - t) W
      have L3 := fun W => tlen_any cx cy r f s W
      have n1 := arcLen_bd cx cy r f t
      have n2 := arcLen_bd cx cy r f (s - t)
      have n3 := arcLen_bd cx cy r f s
      have HB := hide hB
      clear hB hub hub'
      generalize arcLen cx cy r f t = l1 at *
      generalize arcLen cx cy r f (s - t) = l2 at *
      generalize arcLen cx cy r f s = l3 at *
      have wn := wi' (x := l1 + l2) (by omega) (by omega)
      clear hs'
      have sd : decide (s < 0) = false := decide_eq_false s1
      have td : decide (t < 0) = false := decide_eq_false t1
      go_enter Try.func4, Try.ntmps4
      go_wp2_with fail
      refine (awake12_any _).mono ?_
      rintro e w1 ⟨rfl, hb1⟩
      obtain ⟨f1, f2, f3, f4, f5⟩ : w1.cell? ⟨w.heap.size, 0, none⟩ = some (.int .i64 cx) ∧ w1.cell? ⟨w.heap.size, 1, none⟩ = some (.int .i64 cy) ∧ w1.cell? ⟨w.heap.size, 2, none⟩ = some (.int .i64 r) ∧ w1.cell? ⟨w.heap.size, 3, none⟩ = some (.int .i64 f) ∧ w1.cell? ⟨w.heap.size, 4, none⟩ = some (.int .i64 s) := by
        refine ⟨?_, ?_, ?_, ?_, ?_⟩ <;> (refine cell_below hb1 ?_; repeat (first | (with_reducible assumption) | ((with_reducible refine cell_set ?_ ?_ _); (· first | (simp; done) | (simp; omega) | omega)) | ((with_reducible refine cell_new ?_ ?_); (· (simp; done)); (· rfl)) | (with_reducible refine cell_alloc ?_ _) | (with_reducible refine cell_drew ?_) | (with_reducible refine cell_drewN ?_ _) | (with_reducible refine cell_below (by assumption) ?_)))
      have zf1 : w.heap.size < w1.heap.size := World.block_lt_of_cell? _ _ f1
      go_wp2_with fail
      refine (tvalid_any cx cy r f s _).mono ?_
      rintro e w2 ⟨rfl, hb2⟩
      rw [HB.out]
      obtain ⟨f6, f7, f8, f9, f10⟩ : w2.cell? ⟨w.heap.size, 0, none⟩ = some (.int .i64 cx) ∧ w2.cell? ⟨w.heap.size, 1, none⟩ = some (.int .i64 cy) ∧ w2.cell? ⟨w.heap.size, 2, none⟩ = some (.int .i64 r) ∧ w2.cell? ⟨w.heap.size, 3, none⟩ = some (.int .i64 f) ∧ w2.cell? ⟨w.heap.size, 4, none⟩ = some (.int .i64 s) := by
        refine ⟨?_, ?_, ?_, ?_, ?_⟩ <;> (refine cell_below hb2 ?_; repeat (first | (with_reducible assumption) | ((with_reducible refine cell_set ?_ ?_ _); (· first | (simp; done) | (simp; omega) | omega)) | ((with_reducible refine cell_new ?_ ?_); (· (simp; done)); (· rfl)) | (with_reducible refine cell_alloc ?_ _) | (with_reducible refine cell_drew ?_) | (with_reducible refine cell_drewN ?_ _) | (with_reducible refine cell_below (by assumption) ?_)))
      have zf6 : w.heap.size < w2.heap.size := World.block_lt_of_cell? _ _ f6
      clear f1 zf1 f2 f3 f4 f5
      go_wp2_with fail
      go_cut [5, 6] (fun sA sB wx => ∃ (g h : Nat) (wy : World), sA = .pointer (some ⟨g, 0, none⟩) ∧ sB = .pointer (some ⟨h, 0, none⟩) ∧ wy = wx ∧ (g ≠ h ∧ w2.heap.size ≤ g ∧ w2.heap.size ≤ h) ∧ ((wy.cell? ⟨g, 0, none⟩ = some (.int .i64 cx) ∧ wy.frozen? ⟨g, 0, none⟩ = false) ∧ (wy.cell? ⟨g, 1, none⟩ = some (.int .i64 cy) ∧ wy.frozen? ⟨g, 1, none⟩ = false) ∧ (wy.cell? ⟨g, 2, none⟩ = some (.int .i64 r) ∧ wy.frozen? ⟨g, 2, none⟩ = false) ∧ (wy.cell? ⟨g, 3, none⟩ = some (.int .i64 f) ∧ wy.frozen? ⟨g, 3, none⟩ = false) ∧ (wy.cell? ⟨g, 4, none⟩ = some (.int .i64 s) ∧ wy.frozen? ⟨g, 4, none⟩ = false)) ∧ ((wy.cell? ⟨h, 0, none⟩ = some (.int .i64 cx) ∧ wy.frozen? ⟨h, 0, none⟩ = false) ∧ (wy.cell? ⟨h, 1, none⟩ = some (.int .i64 cy) ∧ wy.frozen? ⟨h, 1, none⟩ = false) ∧ (wy.cell? ⟨h, 2, none⟩ = some (.int .i64 r) ∧ wy.frozen? ⟨h, 2, none⟩ = false) ∧ (wy.cell? ⟨h, 3, none⟩ = some (.int .i64 f) ∧ wy.frozen? ⟨h, 3, none⟩ = false) ∧ (wy.cell? ⟨h, 4, none⟩ = some (.int .i64 s) ∧ wy.frozen? ⟨h, 4, none⟩ = false)) ∧ Below w2.heap.size w2 wy)
      case first =>
        go_region_held3 (fun w' => w'.cell? ⟨w.heap.size, 0, none⟩ = some (.int .i64 cx) ∧ w'.cell? ⟨w.heap.size, 1, none⟩ = some (.int .i64 cy) ∧ w'.cell? ⟨w.heap.size, 2, none⟩ = some (.int .i64 r) ∧ w'.cell? ⟨w.heap.size, 3, none⟩ = some (.int .i64 f) ∧ w'.cell? ⟨w.heap.size, 4, none⟩ = some (.int .i64 s))
          (go_keep)
          (first | fail)
        all_goals
          go_wp2_with fail
          go_meet
          refine ⟨_, _, _, rfl, rfl, rfl, ⟨by simp, by simp, by simp⟩, ?_, ?_, ?_⟩
          · refine ⟨?_, ?_, ?_, ?_, ?_⟩ <;> (repeat (first | (refine ⟨?_, ?_⟩ <;> (with_reducible assumption)) | (with_reducible apply own_same) | ((with_reducible refine own_set ?_ ?_ _); (· first | (simp; done) | (simp; omega))) | ((with_reducible refine own_new ?_ ?_); (· (simp; done)); (· rfl)) | (with_reducible refine own_alloc ?_ _) | (with_reducible refine own_drew ?_) | (with_reducible refine own_drewN ?_ _) | (with_reducible refine own_below (by assumption) ?_)))
          · refine ⟨?_, ?_, ?_, ?_, ?_⟩ <;> (repeat (first | (refine ⟨?_, ?_⟩ <;> (with_reducible assumption)) | (with_reducible apply own_same) | ((with_reducible refine own_set ?_ ?_ _); (· first | (simp; done) | (simp; omega))) | ((with_reducible refine own_new ?_ ?_); (· (simp; done)); (· rfl)) | (with_reducible refine own_alloc ?_ _) | (with_reducible refine own_drew ?_) | (with_reducible refine own_drewN ?_ _) | (with_reducible refine own_below (by assumption) ?_)))
          · (repeat (with_reducible (first | assumption | exact Below.refl _ _ | refine Below.drew ?_ | refine below_drewN ?_ _ | refine below_set ?_ (by simp; try omega) _ | refine below_alloc ?_ (Nat.le_refl _) _ | refine below_sub (by assumption) ?_)))
      case rest =>
        obtain ⟨g, h, wy, rfl, rfl, rfl, ⟨gh, hg1, hh1⟩, ⟨⟨a0, a0'⟩, ⟨a1, a1'⟩, ⟨a2, a2'⟩, ⟨a3, a3'⟩, ⟨a4, a4'⟩⟩, ⟨⟨b0, b0'⟩, ⟨b1, b1'⟩, ⟨b2, b2'⟩, ⟨b3, b3'⟩, ⟨b4, b4'⟩⟩, hbx⟩ := hcut
        have gh' : h ≠ g := fun e => gh e.symm
        have gw : g ≠ w.heap.size := by omega
        have gw' : w.heap.size ≠ g := by omega
        have hw : h ≠ w.heap.size := by omega
        have hw' : w.heap.size ≠ h := by omega
        have gL : w.heap.size ≤ g := by omega
        have hL : w.heap.size ≤ h := by omega
        obtain ⟨t11, t12, t13, t14, t15⟩ : wy.cell? ⟨w.heap.size, 0, none⟩ = some (.int .i64 cx) ∧ wy.cell? ⟨w.heap.size, 1, none⟩ = some (.int .i64 cy) ∧ wy.cell? ⟨w.heap.size, 2, none⟩ = some (.int .i64 r) ∧ wy.cell? ⟨w.heap.size, 3, none⟩ = some (.int .i64 f) ∧ wy.cell? ⟨w.heap.size, 4, none⟩ = some (.int .i64 s) := by
          refine ⟨?_, ?_, ?_, ?_, ?_⟩ <;> (refine cell_below hbx ?_; repeat (first | (with_reducible assumption) | ((with_reducible refine cell_set ?_ ?_ _); (· first | (simp; done) | (simp; omega) | omega)) | ((with_reducible refine cell_new ?_ ?_); (· (simp; done)); (· rfl)) | (with_reducible refine cell_alloc ?_ _) | (with_reducible refine cell_drew ?_) | (with_reducible refine cell_drewN ?_ _) | (with_reducible refine cell_below (by assumption) ?_)))
        have zt11 : w.heap.size < wy.heap.size := World.block_lt_of_cell? _ _ t11
        clear f6 zf6 f7 f8 f9 f10
        go_wp2_with fail
        generalize hwwz : ((wy.setCell ⟨g, 4, none⟩ (.int .i64 t)).setCell ⟨h, 4, none⟩ (.int .i64 (s - t))) = wz
        have x16 : wz.cell? ⟨w.heap.size, 0, none⟩ = some (.int .i64 cx) := by
          rw [← hwwz]; exact (cell_set hw (cell_set gw t11 _) _)
        have x17 : wz.cell? ⟨w.heap.size, 1, none⟩ = some (.int .i64 cy) := by
          rw [← hwwz]; exact (cell_set hw (cell_set gw t12 _) _)
        have x18 : wz.cell? ⟨w.heap.size, 2, none⟩ = some (.int .i64 r) := by
          rw [← hwwz]; exact (cell_set hw (cell_set gw t13 _) _)
        have x19 : wz.cell? ⟨w.heap.size, 3, none⟩ = some (.int .i64 f) := by
          rw [← hwwz]; exact (cell_set hw (cell_set gw t14 _) _)
        have x20 : wz.cell? ⟨w.heap.size, 4, none⟩ = some (.int .i64 s) := by
          rw [← hwwz]; exact (cell_set hw (cell_set gw t15 _) _)
        have x21 : wz.cell? ⟨g, 0, none⟩ = some (.int .i64 cx) := by
          rw [← hwwz]; exact ((own_set (fun e => gh' (congrArg Addr.block e)) (own_set (by simp) ⟨a0, a0'⟩ _) _)).1
        have x22 : wz.cell? ⟨g, 1, none⟩ = some (.int .i64 cy) := by
          rw [← hwwz]; exact ((own_set (fun e => gh' (congrArg Addr.block e)) (own_set (by simp) ⟨a1, a1'⟩ _) _)).1
        have x23 : wz.cell? ⟨g, 2, none⟩ = some (.int .i64 r) := by
          rw [← hwwz]; exact ((own_set (fun e => gh' (congrArg Addr.block e)) (own_set (by simp) ⟨a2, a2'⟩ _) _)).1
        have x24 : wz.cell? ⟨g, 3, none⟩ = some (.int .i64 f) := by
          rw [← hwwz]; exact ((own_set (fun e => gh' (congrArg Addr.block e)) (own_set (by simp) ⟨a3, a3'⟩ _) _)).1
        have x25 : wz.cell? ⟨g, 4, none⟩ = some (.int .i64 t) := by
          rw [← hwwz]; exact ((own_set (fun e => gh' (congrArg Addr.block e)) (own_same ⟨a4, a4'⟩ _) _)).1
        have x26 : wz.cell? ⟨h, 0, none⟩ = some (.int .i64 cx) := by
          rw [← hwwz]; exact ((own_set (by simp) (own_set (fun e => gh (congrArg Addr.block e)) ⟨b0, b0'⟩ _) _)).1
        have x27 : wz.cell? ⟨h, 1, none⟩ = some (.int .i64 cy) := by
          rw [← hwwz]; exact ((own_set (by simp) (own_set (fun e => gh (congrArg Addr.block e)) ⟨b1, b1'⟩ _) _)).1
        have x28 : wz.cell? ⟨h, 2, none⟩ = some (.int .i64 r) := by
          rw [← hwwz]; exact ((own_set (by simp) (own_set (fun e => gh (congrArg Addr.block e)) ⟨b2, b2'⟩ _) _)).1
        have x29 : wz.cell? ⟨h, 3, none⟩ = some (.int .i64 f) := by
          rw [← hwwz]; exact ((own_set (by simp) (own_set (fun e => gh (congrArg Addr.block e)) ⟨b3, b3'⟩ _) _)).1
        have x30 : wz.cell? ⟨h, 4, none⟩ = some (.int .i64 (s - t)) := by
          rw [← hwwz]; exact ((own_same (own_set (fun e => gh (congrArg Addr.block e)) ⟨b4, b4'⟩ _) _)).1
        have Bwz : Below w.heap.size w wz := by
          rw [← hwwz]
          (repeat (with_reducible (first | assumption | exact Below.refl _ _ | refine Below.drew ?_ | refine below_drewN ?_ _ | refine below_set ?_ (by simp; try omega) _ | refine below_alloc ?_ (Nat.le_refl _) _ | refine below_sub (by assumption) ?_)))
        clear t11 zt11 t12 t13 t14 t15 a0 a0' a1 a1' a2 a2' a3 a3' a4 a4' b0 b0' b1 b1' b2 b2' b3 b3' b4 b4' hwwz
        have zzx16 : w.heap.size < wz.heap.size := World.block_lt_of_cell? _ _ x16
        have zzx21 : g < wz.heap.size := World.block_lt_of_cell? _ _ x21
        have zzx26 : h < wz.heap.size := World.block_lt_of_cell? _ _ x26
        go_region_held3 (fun w' => w'.cell? ⟨w.heap.size, 0, none⟩ = some (.int .i64 cx) ∧ w'.cell? ⟨w.heap.size, 1, none⟩ = some (.int .i64 cy) ∧ w'.cell? ⟨w.heap.size, 2, none⟩ = some (.int .i64 r) ∧ w'.cell? ⟨w.heap.size, 3, none⟩ = some (.int .i64 f) ∧ w'.cell? ⟨w.heap.size, 4, none⟩ = some (.int .i64 s) ∧ w'.cell? ⟨g, 0, none⟩ = some (.int .i64 cx) ∧ w'.cell? ⟨g, 1, none⟩ = some (.int .i64 cy) ∧ w'.cell? ⟨g, 2, none⟩ = some (.int .i64 r) ∧ w'.cell? ⟨g, 3, none⟩ = some (.int .i64 f) ∧ w'.cell? ⟨g, 4, none⟩ = some (.int .i64 t) ∧ w'.cell? ⟨h, 0, none⟩ = some (.int .i64 cx) ∧ w'.cell? ⟨h, 1, none⟩ = some (.int .i64 cy) ∧ w'.cell? ⟨h, 2, none⟩ = some (.int .i64 r) ∧ w'.cell? ⟨h, 3, none⟩ = some (.int .i64 f) ∧ w'.cell? ⟨h, 4, none⟩ = some (.int .i64 (s - t))) ((go_split_ands; refine ⟨?_, ?_, ?_, ?_, ?_, ?_, ?_, ?_, ?_, ?_, ?_, ?_, ?_, ?_, ?_⟩ <;> (repeat (first | (with_reducible assumption) | ((with_reducible refine cell_set ?_ ?_ _); (· first | (simp; done) | (simp; omega) | omega)) | ((with_reducible refine cell_new ?_ ?_); (· (simp; done)); (· rfl)) | (with_reducible refine cell_alloc ?_ _) | (with_reducible refine cell_drew ?_) | (with_reducible refine cell_drewN ?_ _) | (with_reducible refine cell_below (by assumption) ?_)))))
          (first
            | (go_at_call 23; (first | (with_reducible refine (L1 _).mono ?_) | (with_reducible refine (L2 _).mono ?_) | (with_reducible refine (L3 _).mono ?_)); rintro e w' ⟨rfl, hb'⟩)
            | (go_at_call 27; refine (near_true _ _ _ ?_ ?_ ?_ ?_ ?_ ?_ _).mono ?_; (· (first | omega | (rw [wn]; omega))); (· (first | omega | (rw [wn]; omega))); (· (first | omega | (rw [wn]; omega))); (· (first | omega | (rw [wn]; omega))); (· (first | omega | (rw [wn]; omega))); (· (first | omega | (rw [wn]; omega))); rintro e w' ⟨rfl, rfl⟩))
        rename_i hH
        obtain ⟨f31, f32, f33, f34, f35, f36, f37, f38, f39, f40, f41, f42, f43, f44, f45⟩ := hH
        have zf31 : w.heap.size < w'.heap.size := World.block_lt_of_cell? _ _ f31
        have zf36 : g < w'.heap.size := World.block_lt_of_cell? _ _ f36
        have zf41 : h < w'.heap.size := World.block_lt_of_cell? _ _ f41
        clear x16 zzx16 x17 x18 x19 x20 x21 zzx21 x22 x23 x24 x25 x26 zzx26 x27 x28 x29 x30
        go_wp2_with fail
        all_goals
          go_ret
          exact ⟨ret_bool (by first | rfl | (simp; done) | (simp; omega)), by (repeat (with_reducible (first | assumption | exact Below.refl _ _ | refine Below.drew ?_ | refine below_drewN ?_ _ | refine below_set ?_ (by simp; try omega) _ | refine below_alloc ?_ (Nat.le_refl _) _ | refine below_sub (by assumption) ?_)))⟩
end Go.Proofs.Yteedgcffdgkicaa

/-
  TurnSplits: the row's step: the given statement 'TurnSplitsSaid' out of the walk.
-/
namespace Go.Proofs.Yteedgcffdgkicaa.turnSplits
open Go.ChangeShapes Go.WideShapes Go.ChangeAt Go.RowKit
set_option linter.unusedVariables false

theorem own : ownKnob Try.prog.godebug = none := by kernel_rfl
theorem laidOut : laidOutB Try.prog = true := pf_laid
theorem typed : (Try.f4.params.toList.all fun t => Try.prog.readableRec t && decide (t < Try.prog.types.size)) = true := by kernel_rfl
theorem typed' : ∀ t ∈ Try.f4.params.toList, Try.prog.readableRec t = true ∧ t < Try.prog.types.size := by
  intro t ht
  have h := List.all_eq_true.1 typed t ht
  simpa using h
theorem ct25 : Try.prog.cellTypes Try.prog.depth 25 = some (List.replicate 5 2) := by kernel_rfl
theorem cn25 : Try.prog.cellsOf 25 = (List.replicate 5 2).length := by kernel_rfl
set_option maxRecDepth 100000 in
theorem lifted (os : Os) (started : os.Started) (H : Type) (enc : TypeId × Value → H) :
    ReturnsInHanded {} Try.checked os 4 .any (Rows.turnSplitsSpec.pre6 enc Try.prog Try.f4 Rows.turnSplitsRow.domain false) (Rows.turnSplitsSpec.post enc Try.prog Try.f4 false true false false) := by
  refine returnsInHanded_of_change (C := Try.checked) own started (by kernel_rfl) Try.func4
    (ChangeSpec.witness6 (enc := enc) (C := Try.checked) false ⟨#[], #[.agg #[.int .i64 0, .int .i64 0, .int .i64 0, .int .i64 0, .int .i64 0], .int .i64 0], []⟩ 8 (by kernel_rfl) (by kernel_rfl) (by kernel_rfl) (by kernel_rfl)) ?_
  intro W base args ds gs before hval0 hW hcnd _
  have hval : ∀ (j : Nat) t v, Try.f4.params[j]? = some t → args[j]? = some v → Value.okWide Try.prog W .any base t v := hval0
  have hW' := hW
  obtain ⟨p, q, hA0, hV, rfl, hfz, hnd⟩ := hW
  have hlen := trodAll_length _ _ _ _ hA0
  rw [Try.params4] at hval hlen
  obtain ⟨v0, v1, rfl⟩ := arr2 hlen.1
  obtain ⟨d0, d1, rfl⟩ := list2 hlen.2
  obtain ⟨la, rfl, ea, hla⟩ := ok_ints (Or.inl ⟨_, Try.underlying25⟩) ct25 cn25 (fun u hu => by rw [List.eq_of_mem_replicate hu]; exact Try.underlying2) (hval 0 25 v0 rfl rfl)
  obtain ⟨a0, a1, a2, a3, a4, rfl⟩ := list5 (ea.trans (by simp))
  have ha0 : I64 a0 := hla _ (by simp)
  have ha1 : I64 a1 := hla _ (by simp)
  have ha2 : I64 a2 := hla _ (by simp)
  have ha3 : I64 a3 := hla _ (by simp)
  have ha4 : I64 a4 := hla _ (by simp)
  obtain ⟨cut, rfl, hcut⟩ := ok_i64 Try.underlying2 (hval 1 2 v1 rfl rfl)
  refine (turnSplits_walk a0 a1 a2 a3 a4 cut ha0 ha1 ha2 ha3 ha4 hcut W).mono fun e W' ⟨he, hb⟩ => ?_
  subst he
  exact ⟨_, rfl, law_post (f := Try.f4) (s := Rows.turnSplitsSpec) (tb := 4) laidOut typed' rfl (by kernel_rfl) Try.underlying4 hW' ⟨rfl, rfl, rfl⟩ hb⟩

theorem k0 : (Rows.turnSplitsRow.wf (OpenSpec.ofChange Rows.turnSplitsSpec)) = true := by kernel_rfl
theorem k3 : (Try.f4.params.all (Try.prog.readableRec ·)) = true := by kernel_rfl
theorem k4 : (namedTie Try.prog Rows.turnSplitsRow.named Rows.turnSplitsSpec.vars) = true := by kernel_rfl
theorem k5 : (Rows.turnSplitsRow.stops == []) = true := by kernel_rfl
theorem k7 : (Rows.turnSplitsRow.knobs == []) = true := by kernel_rfl
theorem k9 : (Rows.turnSplitsRow.inPlace == Try.prog.inPlace 4) = true := by kernel_rfl
theorem k10 : (Rows.turnSplitsRow.unfollowed == Try.prog.unfollowed 4) = true := by kernel_rfl
theorem k11 : (Rows.turnSplitsRow.recurses == Try.prog.recurses 4) = true := by kernel_rfl
theorem k12 : (Rows.turnSplitsRow.named == Try.prog.varsNamed 4) = true := by kernel_rfl
theorem k13 : (Rows.turnSplitsRow.maps == (Try.f4.params.toList ++ Rows.turnSplitsSpec.plain.varTypes Try.prog).any (Try.prog.mapsRec ·)) = true := by kernel_rfl
theorem k14 : (Rows.turnSplitsRow.ifaces == (Try.f4.params.toList ++ Rows.turnSplitsSpec.plain.varTypes Try.prog).any (Try.prog.ifacesRec ·)) = true := by kernel_rfl
theorem k15 : (Rows.turnSplitsRow.mapsOut == Try.prog.mapsAmong Try.f4.resultTypes.toList) = true := by kernel_rfl
theorem k16 : (Rows.turnSplitsRow.loops == (Try.f4.params.toList ++ Rows.turnSplitsSpec.plain.varTypes Try.prog).any (Try.prog.loopsFrom ·)) = true := by kernel_rfl
theorem k17 : (Rows.turnSplitsRow.wideKeys == (Try.f4.params.toList ++ Rows.turnSplitsSpec.plain.varTypes Try.prog ++ Try.f4.resultTypes.toList).any (Try.prog.wideKeysFrom ·)) = true := by kernel_rfl
theorem k18 : (Rows.turnSplitsSpec.vars.all (Try.prog.varReadable ·)) = true := by kernel_rfl
theorem k19 : (Try.f4.resultTypes.all (fun t => Try.prog.readableRec t && decide (t < Try.prog.types.size))) = true := by kernel_rfl
theorem k20 : (Rows.turnSplitsRow.ifacesOut == Try.f4.resultTypes.toList.any (Try.prog.ifacesRec ·)) = true := by kernel_rfl
theorem k21 : (Rows.turnSplitsRow.loopsOut == Try.f4.resultTypes.toList.any (Try.prog.loopsFrom ·)) = true := by kernel_rfl
theorem k22 : (Rows.turnSplitsRow.plainKeys == Try.prog.plainKeys) = true := by kernel_rfl
theorem k23 : (Rows.turnSplitsRow.shortTexts.isNone) = true := by kernel_rfl
theorem k26 : (Rows.turnSplitsRow.lifted == Try.prog.liftsFinal) = true := by rw [pf_lifts]; rfl
theorem k27 : (Try.prog.make == some Rows.turnSplitsRow.make) = true := by rw [pf_make]; rfl
theorem k28 : (Rows.turnSplitsRow.kinds == (if Rows.turnSplitsRow.domain.isEmpty then [] else Try.f4.params.toList.map fun t => match Try.prog.underlying t with | some (.int k) => some k | _ => none)) = true := by kernel_rfl
theorem k29 : (Rows.turnSplitsRow.pinned == Rows.turnSplitsRow.pinnedBy) = true := by kernel_rfl
theorem k30 : (Rows.turnSplitsRow.veiled == (Try.f4.params.toList ++ Rows.turnSplitsSpec.plain.varTypes Try.prog ++ Try.f4.resultTypes.toList).any (Try.prog.veiledRec ·)) = true := by kernel_rfl
theorem k31 : (Rows.turnSplitsRow.veiledFits Try.prog Try.f4.params.toList (Try.f4.params.toList ++ Rows.turnSplitsSpec.plain.varTypes Try.prog ++ Try.f4.resultTypes.toList)) = true := by kernel_rfl
set_option maxRecDepth 100000 in
theorem closed : joinedFacts Try.prog 4 Try.f4 Rows.turnSplitsSpec Rows.turnSplitsRow = true := (band (band (band (band (band (band (band (band (band (band (band (band (band (band (band (band (band (band (band (band (band (band (band (band (band (band (band (band (band (band (band k0 pf_laid) pf_maps) k3) k4) k5) pf_stops) k7) pf_knobs) k9) k10) k11) k12) k13) k14) k15) k16) k17) k18) k19) k20) k21) k22) k23) pf_heard) pf_enter) k26) k27) k28) k29) k30) k31)
theorem byName : Try.prog.funcNamed Rows.turnSplitsRow.func = some 4 := by kernel_rfl
theorem inst : Try.f4.isInstance Try.prog Rows.turnSplitsRow.origin Rows.turnSplitsRow.targs := of_decide_eq_true (by kernel_rfl)
theorem over : Rows.turnSplitsRow.holds Try.pinned (OpenSpec.ofChange Rows.turnSplitsSpec) :=
  OpenClaim.holds_of_wide 4 Try.f4 rfl rfl rfl rfl rfl rfl rfl ⟨rfl, rfl, rfl, rfl, rfl⟩ rfl rfl rfl rfl rfl byName Try.func4 closed
    inst (by unfold Func.isWrapper; rw [if_neg (of_decide_eq_false (by kernel_rfl))]; exact ⟨rfl, rfl⟩)
    (fun os started H enc _ => lifted os started H enc)

/-- The given statement. -/
theorem proved : Rows.TurnSplitsSaid := over
end Go.Proofs.Yteedgcffdgkicaa.turnSplits

