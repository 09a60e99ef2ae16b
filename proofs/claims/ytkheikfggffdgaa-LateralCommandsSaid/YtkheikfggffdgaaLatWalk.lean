/-
  The walks of the lateral command, its limit and the five laws on them (chapter 50): what each Go function computes, as plain functions on integers.
-/
import Derived.Test.YtkheikfggffdgaaProg
import Derived.Test.YtkheikfggffdgaaLift
import Derived.WalkSpells
import Derived.WalkLawsBesides
import Derived.Deep.QuietTactic
import Derived.BigQuiet
namespace Go.Proofs.Ytkheikfggffdgaa
set_option linter.unusedVariables false
open Go.RowKit

theorem hide {p : Prop} (h : p) : Hid p := h
theorem ret_int {k : IntKind} {a b : Int} (h : a = b) : Ending.returned (.int k a) = .returned (.int k b) := by rw [h]
theorem ret_bool {a b : Bool} (h : a = b) : Ending.returned (.bool a) = .returned (.bool b) := by rw [h]
/-- a call that leaves the world alone is a quiet one -/
theorem quiet_l {P : Program} {f : FuncId} {args : Array Value} {w : World} {n : Nat} {v : Value}
    (h : Calls P f args (w.drewN n) fun e w' => e = .returned v ∧ w.drewN n = w') : Calls P f args (w.drewN n) fun e w'' => e = .returned v ∧ ∃ m, w'' = w.drewN m :=
  h.mono fun _ _ hh => ⟨hh.1, n, hh.2.symm⟩
theorem below_drewN {B : Nat} {a w : World} (h : Below B a w) (n : Nat) : Below B a (w.drewN n) := ⟨h.os, h.tape, h.output, h.size, h.block⟩
def clamp (x lo hi : Int) : Int := if x < lo then lo else if hi < x then hi else x
theorem clamp_bd (x lo hi : Int) (h : lo ≤ hi) : lo ≤ clamp x lo hi ∧ clamp x lo hi ≤ hi := by unfold clamp; omega
def command (o g n m : Int) : Int :=
  clamp (clamp n (-3000) 3000 + Int.tdiv (-(clamp o (-12000) 12000) * 1350 - clamp g (-64800000) 64800000) 7200) (-(clamp m 0 3000)) (clamp m 0 3000)
theorem tdiv_bd (a b : Int) : -(a.natAbs : Int) ≤ Int.tdiv a b ∧ Int.tdiv a b ≤ a.natAbs := by
  have := Int.natAbs_tdiv_le_natAbs a b
  omega
/-- the number in the range of int64 that is nearest -/
def sat (x : Int) : Int := clamp x (-9223372036854775808) 9223372036854775807
def limit3 (last want rate : Int) : Int := clamp want (sat (last - max rate 0)) (sat (last + max rate 0))

set_option maxHeartbeats 400000 in
theorem clamp_any (x lo hi : Int) (w : World) :
    Calls Try.prog 13 #[.int .i64 x, .int .i64 lo, .int .i64 hi] w fun e w' => e = .returned (.int .i64 (clamp x lo hi)) ∧ w = w' := by
  go_enter Try.func13, Try.ntmps13
  go_wp2
  all_goals
    go_ret
    exact ⟨ret_int (by unfold clamp; omega), rfl⟩
set_option maxHeartbeats 400000 in
theorem rclamp_any (x lo hi : Int) (w : World) :
    Calls Try.prog 14 #[.int .i64 x, .int .i64 lo, .int .i64 hi] w fun e w' => e = .returned (.int .i64 (clamp x lo hi)) ∧ w = w' := by
  go_enter Try.func14, Try.ntmps14
  go_wp2
  all_goals
    go_ret
    exact ⟨ret_int (by unfold clamp; omega), rfl⟩

set_option maxHeartbeats 400000 in
theorem command_any (o g n m : Int) (w : World) :
    Calls Try.prog 9 #[.int .i64 o, .int .i64 g, .int .i64 n, .int .i64 m] w fun e w' => e = .returned (.int .i64 (command o g n m)) ∧ w = w' := by
  have b1 := clamp_bd o (-12000) 12000 (by omega)
  have b2 := clamp_bd g (-64800000) 64800000 (by omega)
  have b3 := clamp_bd n (-3000) 3000 (by omega)
  have b4 := clamp_bd m 0 3000 (by omega)
  have b5 := tdiv_bd (-(clamp o (-12000) 12000) * 1350 - clamp g (-64800000) 64800000) 7200
  go_enter Try.func9, Try.ntmps9
  go_wp2_with (go_at_call 13; refine (clamp_any _ _ _ _).mono ?_; rintro e w' ⟨rfl, rfl⟩)
  go_ret
  exact ⟨ret_int (by unfold command; rfl), rfl⟩
set_option maxHeartbeats 400000 in
theorem rcommand_any (o g n m : Int) (w : World) :
    Calls Try.prog 10 #[.int .i64 o, .int .i64 g, .int .i64 n, .int .i64 m] w fun e w' => e = .returned (.int .i64 (command o g n m)) ∧ w = w' := by
  have b1 := clamp_bd o (-12000) 12000 (by omega)
  have b2 := clamp_bd g (-64800000) 64800000 (by omega)
  have b3 := clamp_bd n (-3000) 3000 (by omega)
  have b4 := clamp_bd m 0 3000 (by omega)
  have b5 := tdiv_bd (-(clamp o (-12000) 12000) * 1350 - clamp g (-64800000) 64800000) 7200
  go_enter Try.func10, Try.ntmps10
  go_wp2_with (go_at_call 14; refine (rclamp_any _ _ _ _).mono ?_; rintro e w' ⟨rfl, rfl⟩)
  go_ret
  exact ⟨ret_int (by unfold command; rfl), rfl⟩

/-! ### sums that saturate -/
set_option maxHeartbeats 400000 in
theorem add_any (a b : Int) (ha : I64 a) (hb : I64 b) (w : World) :
    Calls Try.prog 16 #[.int .i64 a, .int .i64 b] w fun e w' => e = .returned (.int .i64 (sat (a + b))) ∧ w = w' := by
  obtain ⟨a1, a2⟩ := ha
  obtain ⟨b1, b2⟩ := hb
  go_enter Try.func16, Try.ntmps16
  go_wp2
  all_goals
    go_ret
    refine ⟨ret_int ?_, rfl⟩
    unfold sat clamp
    simp [wrap64] at *
    omega
set_option maxHeartbeats 400000 in
theorem sub_any (a b : Int) (ha : I64 a) (hb : I64 b) (w : World) :
    Calls Try.prog 15 #[.int .i64 a, .int .i64 b] w fun e w' => e = .returned (.int .i64 (sat (a - b))) ∧ w = w' := by
  obtain ⟨a1, a2⟩ := ha
  obtain ⟨b1, b2⟩ := hb
  go_enter Try.func15, Try.ntmps15
  go_wp2
  all_goals
    go_ret
    refine ⟨ret_int ?_, rfl⟩
    unfold sat clamp
    simp [wrap64] at *
    omega
set_option maxHeartbeats 400000 in
theorem radd_any (a b : Int) (ha : I64 a) (hb : I64 b) (w : World) :
    Calls Try.prog 18 #[.int .i64 a, .int .i64 b] w fun e w' => e = .returned (.int .i64 (sat (a + b))) ∧ w = w' := by
  obtain ⟨a1, a2⟩ := ha
  obtain ⟨b1, b2⟩ := hb
  go_enter Try.func18, Try.ntmps18
  go_wp2
  all_goals
    go_ret
    refine ⟨ret_int ?_, rfl⟩
    unfold sat clamp
    simp [wrap64, IntKind.wrap_u64] at *
    omega
set_option maxHeartbeats 400000 in
theorem rsub_any (a b : Int) (ha : I64 a) (hb : I64 b) (w : World) :
    Calls Try.prog 17 #[.int .i64 a, .int .i64 b] w fun e w' => e = .returned (.int .i64 (sat (a - b))) ∧ w = w' := by
  obtain ⟨a1, a2⟩ := ha
  obtain ⟨b1, b2⟩ := hb
  go_enter Try.func17, Try.ntmps17
  go_wp2
  all_goals
    go_ret
    refine ⟨ret_int ?_, rfl⟩
    unfold sat clamp
    simp [wrap64, IntKind.wrap_u64] at *
    omega

theorem sat_bd (x : Int) : I64 (sat x) := by unfold sat; exact clamp_bd x _ _ (by omega)
theorem limit3_neg {l t r : Int} (h : r < 0) : clamp t (sat l) (sat l) = limit3 l t r := by
  unfold limit3
  have e : max r 0 = 0 := by omega
  rw [e]; simp
theorem limit3_pos {l t r : Int} (h : 0 ≤ r) : clamp t (sat (l - r)) (sat (l + r)) = limit3 l t r := by
  unfold limit3
  have e : max r 0 = r := by omega
  rw [e]
set_option maxHeartbeats 400000 in
theorem limit_any (l t r : Int) (hl : I64 l) (hr : I64 r) (w : World) :
    Calls Try.prog 11 #[.int .i64 l, .int .i64 t, .int .i64 r] w fun e w' => e = .returned (.int .i64 (limit3 l t r)) ∧ w = w' := by
  have h0 : I64 0 := by unfold I64; omega
  by_cases h : r < 0
  all_goals
    have hx := hide h
    have hr1 : r ≤ 9223372036854775807 := hr.2
    go_enter Try.func11, Try.ntmps11
    go_wp2_with (first | (go_at_call 15; refine (sub_any _ _ hl (by first | exact h0 | exact hr) _).mono ?_; rintro e w' ⟨rfl, rfl⟩) | (go_at_call 16; refine (add_any _ _ hl (by first | exact h0 | exact hr) _).mono ?_; rintro e w' ⟨rfl, rfl⟩) | (go_at_call 13; refine (clamp_any _ _ _ _).mono ?_; rintro e w' ⟨rfl, rfl⟩))
    go_ret
    have h := hx.out
    first | exact ⟨ret_int (limit3_neg h), rfl⟩ | exact ⟨ret_int (limit3_pos (by omega)), rfl⟩
set_option maxHeartbeats 400000 in
theorem rlimit_any (l t r : Int) (hl : I64 l) (hr : I64 r) (w : World) :
    Calls Try.prog 12 #[.int .i64 l, .int .i64 t, .int .i64 r] w fun e w' => e = .returned (.int .i64 (limit3 l t r)) ∧ w = w' := by
  have h0 : I64 0 := by unfold I64; omega
  by_cases h : r < 0
  all_goals
    have hx := hide h
    have hr1 : r ≤ 9223372036854775807 := hr.2
    go_enter Try.func12, Try.ntmps12
    go_wp2_with (first | (go_at_call 17; refine (rsub_any _ _ hl (by first | exact h0 | exact hr) _).mono ?_; rintro e w' ⟨rfl, rfl⟩) | (go_at_call 18; refine (radd_any _ _ hl (by first | exact h0 | exact hr) _).mono ?_; rintro e w' ⟨rfl, rfl⟩) | (go_at_call 14; refine (rclamp_any _ _ _ _).mono ?_; rintro e w' ⟨rfl, rfl⟩))
    go_ret
    have h := hx.out
    first | exact ⟨ret_int (limit3_neg h), rfl⟩ | exact ⟨ret_int (limit3_pos (by omega)), rfl⟩

set_option maxHeartbeats 400000 in
theorem awake_any (w : World) :
    Calls Try.prog 8 #[] w fun e w' => e = .returned (.bool true) ∧ w = w' := by
  have c1 : command 6000 0 0 2500 = -1125 := by decide
  have c2 : command 0 3600000 0 2500 = -500 := by decide
  have c3 : command 0 0 1800 2500 = 1800 := by decide
  have c4 : command (-60000) 0 0 2500 = 2250 := by decide
  have c5 : limit3 0 1000 300 = 300 := by decide
  have h0 : I64 0 := by unfold I64; omega
  have h3 : I64 300 := by unfold I64; omega
  go_enter Try.func8, Try.ntmps8
  go_wp2_with (first | (go_at_call 9; refine (command_any _ _ _ _ _).mono ?_; rintro e w' ⟨rfl, rfl⟩) | (go_at_call 11; refine (limit_any _ _ _ h0 h3 _).mono ?_; rintro e w' ⟨rfl, rfl⟩))
  go_ret
  exact ⟨rfl, rfl⟩
set_option maxHeartbeats 400000 in
theorem lateralCommands_walk (off ang n0 n1 : Int) (hoff : I64 off) (hang : I64 ang) (hn0 : I64 n0) (hn1 : I64 n1) (w : World) :
    Calls Try.prog 3 #[.int .i64 off, .int .i64 ang, .agg #[.int .i64 n0, .int .i64 n1]] w fun e w' => e = .returned (.bool true) ∧ Below w.heap.size w w' := by
  go_enter Try.func3, Try.ntmps3
  go_wp2
  go_quiet ((first | (go_at_call 8; exact quiet_l (awake_any _)) | (go_at_call 9; exact quiet_l (command_any _ _ _ _ _)) | (go_at_call 10; exact quiet_l (rcommand_any _ _ _ _ _))))
  go_wp2
  go_ret
  exact ⟨rfl, below_drewN ((Below.refl _ _).alloc (Nat.le_refl _) _) _⟩

theorem command_le (o g n m : Int) : command o g n m ≤ clamp m 0 3000 ∧ -(clamp m 0 3000) ≤ command o g n m := by
  have := clamp_bd m 0 3000 (by omega)
  have := clamp_bd (clamp n (-3000) 3000 + Int.tdiv (-(clamp o (-12000) 12000) * 1350 - clamp g (-64800000) 64800000) 7200) (-(clamp m 0 3000)) (clamp m 0 3000) (by omega)
  unfold command
  omega
set_option maxHeartbeats 1000000 in
theorem lateralBounds_walk (off ang n0 n1 : Int) (hoff : I64 off) (hang : I64 ang) (hn0 : I64 n0) (hn1 : I64 n1) (w : World) :
    Calls Try.prog 5 #[.int .i64 off, .int .i64 ang, .agg #[.int .i64 n0, .int .i64 n1]] w fun e w' => e = .returned (.bool true) ∧ Below w.heap.size w w' := by
  have b := command_le off ang n0 n1
  have hb : command off ang n0 n1 ≤ max (min n1 3000) 0 ∧ -(max (min n1 3000) 0) ≤ command off ang n0 n1 := by
    unfold clamp at b
    omega
  go_enter Try.func5, Try.ntmps5
  go_wp2_with (first | (go_at_call 8; refine (awake_any _).mono ?_; rintro e w' ⟨rfl, rfl⟩) | (go_at_call 9; refine (command_any _ _ _ _ _).mono ?_; rintro e w' ⟨rfl, rfl⟩) | (go_at_call 10; refine (rcommand_any _ _ _ _ _).mono ?_; rintro e w' ⟨rfl, rfl⟩)| (go_at_call 11; refine (limit_any _ _ _ (by assumption) (by assumption) _).mono ?_; rintro e w' ⟨rfl, rfl⟩)| (go_at_call 12; refine (rlimit_any _ _ _ (by assumption) (by assumption) _).mono ?_; rintro e w' ⟨rfl, rfl⟩))
  all_goals
    go_ret
    exact ⟨ret_bool (by first | rfl | (simp; done) | (simp; omega)), by repeat (first | exact Below.refl _ _ | refine Below.alloc ?_ (by simp; try omega) _)⟩

theorem limit3_between (l t r : Int) (hl : I64 l) (ht : I64 t) : (t ≤ l → t ≤ limit3 l t r ∧ limit3 l t r ≤ l) ∧ (l ≤ t → l ≤ limit3 l t r ∧ limit3 l t r ≤ t) := by
  unfold limit3 sat clamp I64 at *
  omega
theorem limit3_near (l t r : Int) (hl : -1099511627776 ≤ l ∧ l ≤ 1099511627776) (hr : 0 ≤ r ∧ r ≤ 1099511627776) : limit3 l t r - l ≤ r ∧ l - limit3 l t r ≤ r := by
  unfold limit3 sat clamp
  omega
theorem limit3_in (l t r : Int) : I64 (limit3 l t r) := by
  unfold limit3 sat clamp I64
  omega
set_option maxHeartbeats 1000000 in
theorem lateralLimits_walk (last want rate : Int) (hlast : I64 last) (hwant : I64 want) (hrate : I64 rate) (w : World) :
    Calls Try.prog 4 #[.int .i64 last, .int .i64 want, .int .i64 rate] w fun e w' => e = .returned (.bool true) ∧ Below w.heap.size w w' := by
  have hB := hide (limit3_between last want rate hlast hwant)
  have hN := hide (limit3_near last want rate)
  obtain ⟨i1, i2⟩ := limit3_in last want rate
  have hw1 := hwant.1
  have hw2 := hwant.2
  go_enter Try.func4, Try.ntmps4
  go_wp2_with (first | (go_at_call 8; refine (awake_any _).mono ?_; rintro e w' ⟨rfl, rfl⟩) | (go_at_call 9; refine (command_any _ _ _ _ _).mono ?_; rintro e w' ⟨rfl, rfl⟩) | (go_at_call 10; refine (rcommand_any _ _ _ _ _).mono ?_; rintro e w' ⟨rfl, rfl⟩)| (go_at_call 11; refine (limit_any _ _ _ (by assumption) (by assumption) _).mono ?_; rintro e w' ⟨rfl, rfl⟩)| (go_at_call 12; refine (rlimit_any _ _ _ (by assumption) (by assumption) _).mono ?_; rintro e w' ⟨rfl, rfl⟩))
  all_goals
    go_ret
    have hB := hB.out
    have hN := hN.out
    first
    | exact ⟨rfl, Below.refl _ _⟩
    | (exfalso; omega)
    | (have := hN (by omega) (by omega); exact ⟨ret_bool (by simp [wrap64]; omega), Below.refl _ _⟩)
    | (have := hN (by omega) (by omega); exfalso; unfold wrap64 at *; omega)

theorem clamp_neg (x h : Int) : clamp (-x) (-h) h = -(clamp x (-h) h) ∨ h < 0 := by unfold clamp; omega
theorem command_neg (o g n m : Int) : command (-o) (-g) (-n) m = -command o g n m := by
  have e1 : clamp (-o) (-12000) 12000 = -clamp o (-12000) 12000 := by unfold clamp; omega
  have e2 : clamp (-g) (-64800000) 64800000 = -clamp g (-64800000) 64800000 := by unfold clamp; omega
  have e3 : clamp (-n) (-3000) 3000 = -clamp n (-3000) 3000 := by unfold clamp; omega
  have b4 := clamp_bd m 0 3000 (by omega)
  unfold command
  rw [e1, e2, e3]
  rw [show -(-clamp o (-12000) 12000) * 1350 - -clamp g (-64800000) 64800000 = -(-(clamp o (-12000) 12000) * 1350 - clamp g (-64800000) 64800000) from by omega, Int.neg_tdiv]
  have := clamp_neg (clamp n (-3000) 3000 + Int.tdiv (-(clamp o (-12000) 12000) * 1350 - clamp g (-64800000) 64800000) 7200) (clamp m 0 3000)
  rw [← Int.neg_add]
  omega
theorem tdiv_mono (a b : Int) (h : a ≤ b) : Int.tdiv a 7200 ≤ Int.tdiv b 7200 := by
  rcases Int.lt_or_le a 0 with ha | ha
  · rcases Int.lt_or_le b 0 with hb | hb
    · obtain ⟨a', rfl⟩ : ∃ a', a = -a' := ⟨-a, by omega⟩
      obtain ⟨b', rfl⟩ : ∃ b', b = -b' := ⟨-b, by omega⟩
      rw [Int.neg_tdiv, Int.neg_tdiv, Int.tdiv_eq_ediv_of_nonneg (by omega), Int.tdiv_eq_ediv_of_nonneg (by omega)]
      omega
    · obtain ⟨a', rfl⟩ : ∃ a', a = -a' := ⟨-a, by omega⟩
      rw [Int.neg_tdiv, Int.tdiv_eq_ediv_of_nonneg (by omega), Int.tdiv_eq_ediv_of_nonneg (by omega)]
      omega
  · rw [Int.tdiv_eq_ediv_of_nonneg (by omega), Int.tdiv_eq_ediv_of_nonneg (by omega)]
    omega
theorem command_mono (o o' g g' n m : Int) (h1 : o ≤ o') (h2 : g ≤ g') : command o' g' n m ≤ command o g n m := by
  unfold command
  have a1 : clamp o (-12000) 12000 ≤ clamp o' (-12000) 12000 := by unfold clamp; omega
  have a2 : clamp g (-64800000) 64800000 ≤ clamp g' (-64800000) 64800000 := by unfold clamp; omega
  have b4 := clamp_bd m 0 3000 (by omega)
  have a3 := tdiv_mono (-(clamp o' (-12000) 12000) * 1350 - clamp g' (-64800000) 64800000) (-(clamp o (-12000) 12000) * 1350 - clamp g (-64800000) 64800000) (by omega)
  generalize Int.tdiv (-(clamp o' (-12000) 12000) * 1350 - clamp g' (-64800000) 64800000) 7200 = x at *
  generalize Int.tdiv (-(clamp o (-12000) 12000) * 1350 - clamp g (-64800000) 64800000) 7200 = y at *
  generalize clamp n (-3000) 3000 = k at *
  generalize clamp m 0 3000 = l at *
  unfold clamp
  omega
set_option maxHeartbeats 1000000 in
theorem lateralMirrors_walk (off ang n0 n1 : Int) (hoff : I64 off) (hang : I64 ang) (hn0 : I64 n0) (hn1 : I64 n1) (w : World) :
    Calls Try.prog 6 #[.int .i64 off, .int .i64 ang, .agg #[.int .i64 n0, .int .i64 n1]] w fun e w' => e = .returned (.bool true) ∧ Below w.heap.size w w' := by
  have e := command_neg off ang n0 n1
  have b := command_le off ang n0 n1
  have b4 := clamp_bd n1 0 3000 (by omega)
  have l1 : -3000 ≤ command off ang n0 n1 := by omega
  have l2 : command off ang n0 n1 ≤ 3000 := by omega
  have E := hide e
  obtain ⟨p1, p2⟩ := hoff
  obtain ⟨p3, p4⟩ := hang
  obtain ⟨p5, p6⟩ := hn0
  clear e b b4
  by_cases c1 : off = -9223372036854775808
  · subst c1
    go_enter Try.func6, Try.ntmps6
    go_wp2_with (first | (go_at_call 8; refine (awake_any _).mono ?_; rintro e w' ⟨rfl, rfl⟩))
    go_ret
    exact ⟨rfl, (Below.refl _ _).alloc (Nat.le_refl _) _⟩
  by_cases c2 : ang = -9223372036854775808
  · subst c2
    have d1 : (off == -9223372036854775808) = false := beq_eq_false_iff_ne.2 c1
    go_enter Try.func6, Try.ntmps6
    go_wp2_with (first | (go_at_call 8; refine (awake_any _).mono ?_; rintro e w' ⟨rfl, rfl⟩))
    go_ret
    exact ⟨rfl, (Below.refl _ _).alloc (Nat.le_refl _) _⟩
  have d1 : (off == -9223372036854775808) = false := beq_eq_false_iff_ne.2 c1
  have d2 : (ang == -9223372036854775808) = false := beq_eq_false_iff_ne.2 c2
  by_cases c3 : n0 = -9223372036854775808
  · subst c3
    go_enter Try.func6, Try.ntmps6
    go_wp2_with (first | (go_at_call 8; refine (awake_any _).mono ?_; rintro e w' ⟨rfl, rfl⟩))
    go_ret
    exact ⟨rfl, (Below.refl _ _).alloc (Nat.le_refl _) _⟩
  have d3 : (n0 == -9223372036854775808) = false := beq_eq_false_iff_ne.2 c3
  have q1 : -9223372036854775807 ≤ off := by omega
  have q3 : -9223372036854775807 ≤ ang := by omega
  have q5 : -9223372036854775807 ≤ n0 := by omega
  go_enter Try.func6, Try.ntmps6
  go_wp2_with (first | (go_at_call 8; refine (awake_any _).mono ?_; rintro e w' ⟨rfl, rfl⟩))
  have e := E.out
  go_quiet ((first | (go_at_call 9; exact quiet_l (command_any _ _ _ _ _))))
  go_wp2
  go_ret
  exact ⟨rfl, below_drewN ((Below.refl _ _).alloc (Nat.le_refl _) _) _⟩
set_option maxHeartbeats 1000000 in
theorem lateralRises_walk (a0 a1 b0 b1 n0 n1 : Int) (ha0 : I64 a0) (ha1 : I64 a1) (hb0 : I64 b0) (hb1 : I64 b1) (hn0 : I64 n0) (hn1 : I64 n1) (w : World) :
    Calls Try.prog 7 #[.agg #[.int .i64 a0, .int .i64 a1], .agg #[.int .i64 b0, .int .i64 b1], .agg #[.int .i64 n0, .int .i64 n1]] w fun e w' => e = .returned (.bool true) ∧ Below w.heap.size w w' := by
  have hm := hide (fun o o' g g' h1 h2 => command_mono o o' g g' n0 n1 h1 h2)
  rcases Int.lt_or_le b0 a0 with c1 | c1 <;> rcases Int.lt_or_le b1 a1 with c2 | c2
  all_goals
    go_enter Try.func7, Try.ntmps7
    go_wp2_with (first | (go_at_call 8; refine (awake_any _).mono ?_; rintro e w' ⟨rfl, rfl⟩) | (go_at_call 9; refine (command_any _ _ _ _ _).mono ?_; rintro e w' ⟨rfl, rfl⟩) | (go_at_call 10; refine (rcommand_any _ _ _ _ _).mono ?_; rintro e w' ⟨rfl, rfl⟩)| (go_at_call 11; refine (limit_any _ _ _ (by assumption) (by assumption) _).mono ?_; rintro e w' ⟨rfl, rfl⟩)| (go_at_call 12; refine (rlimit_any _ _ _ (by assumption) (by assumption) _).mono ?_; rintro e w' ⟨rfl, rfl⟩))
    all_goals
      go_ret
      have hm := hm.out
      first
      | exact ⟨ret_bool (by first | rfl | (simp; exact hm _ _ _ _ (by omega) (by omega))), by repeat (first | exact Below.refl _ _ | refine Below.alloc ?_ (by simp; try omega) _)⟩
      | (exfalso; omega)
end Go.Proofs.Ytkheikfggffdgaa
