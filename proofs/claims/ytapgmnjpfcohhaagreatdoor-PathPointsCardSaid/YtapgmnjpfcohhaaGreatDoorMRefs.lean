/-
  The references A/00, B/00, C/00: SplitRef, checkRef, checkNumber.
-/
import Derived.Test.YtapgmnjpfcohhaaGreatDoorMFixed
import Derived.Test.YtapgmnjpfcohhaaGreatDoorMGeo
import Derived.Test.YtapgmnjpfcohhaaGreatDoorMLaid
import Derived.Test.YtapgmnjpfcohhaaGreatDoorMPlain
import Derived.Lib.Bytealg
import Derived.Lib.Strings
import Derived.Deep.Draws
import Derived.Laws.Strings3
import Derived.Below
import Derived.Deep.RegionHeld3
import Derived.Test.YtapgmnjpfcohhaaGreatDoorProg
import Derived.WalkSpells
import Derived.WalkLawsBesides
import Derived.Deep.QuietTactic
import Derived.BigQuiet
import Derived.Lib.ItoaNum
import Derived.Shelf.Small.Bits
import Derived.Shelf.Strconv.Itoa0
import Derived.Shelf.Bits.Mul64
import Derived.Shelf.Spec.BitsCarry
import Derived.WalkKit
import Derived.ProofKit
import Derived.OpenShut
import Derived.ChangeSame
import Derived.Test.YtapgmnjpfcohhaaGreatDoorRows
import Derived.LaidMore
import Derived.LaidLaws
import Derived.LaidHandle
import Derived.MakeChecks
namespace Go.Proofs.YtapgmnjpfcohhaaGreatDoor
open Go.RowKit
set_option linter.unusedVariables false
set_option linter.unusedSimpArgs false
set_option maxRecDepth 100000 in
set_option maxHeartbeats 4000000 in
theorem sbyte_65 (w : World) :
    Calls Tryz.prog 189 #[.string ⟨#[65, 47, 48, 48]⟩, .int .u8 47] w fun e w' => e = .returned (.int .i64 1) ∧ w' = w := by
  go_enter Tryz.func189, Tryz.ntmps189
  go_wp2_with fail
  rw [run_callFunc_extern Tryz.func193 (by kernel_rfl) (by kernel_rfl) (by kernel_rfl) (e := Extern.BytealgIndexByte.indexByte) (by kernel_rfl), Lib.run_indexByteString]
  simp only [Result.andThen]
  rw [Oper.upon_value]
  go_wp2_with fail
  all_goals
    go_ret
    exact ⟨rfl, rfl⟩
set_option maxRecDepth 100000 in
set_option maxHeartbeats 4000000 in
theorem sidx_65 (w : World) :
    Calls Tryz.prog 187 #[.string ⟨#[65, 47, 48, 48]⟩, .string ⟨#[47]⟩] w fun e w' => e = .returned (.int .i64 1) ∧ w' = w := by
  go_enter Tryz.func187, Tryz.ntmps187
  go_wp2_with fail
  refine (sbyte_65 _).mono ?_
  rintro e w1 ⟨rfl, rfl⟩
  go_wp2_with fail
  all_goals
    go_ret
    exact ⟨rfl, rfl⟩
set_option maxRecDepth 100000 in
set_option maxHeartbeats 4000000 in
theorem scut_65 (w : World) :
    Calls Tryz.prog 183 #[.string ⟨#[65, 47, 48, 48]⟩, .string ⟨#[47]⟩] w fun e w' => e = .returned (.tuple #[.string ⟨#[65]⟩, .string ⟨#[48, 48]⟩, .bool true]) ∧ ∃ n, w' = w.drewN n := by
  go_enter Tryz.func183, Tryz.ntmps183
  go_wp2_with fail
  refine (sidx_65 _).mono ?_
  rintro e w1 ⟨rfl, rfl⟩
  go_wp2_with fail
  go_quiet (fail)
  go_wp2_with fail
  go_ret3
  exact ⟨rfl, _, rfl⟩
set_option maxRecDepth 100000 in
set_option maxHeartbeats 4000000 in
theorem gcut_65 (w : World) :
    Calls Tryz.prog 173 #[.string ⟨#[65, 47, 48, 48]⟩, .string ⟨#[47]⟩] w fun e w' => e = .returned (.tuple #[.string ⟨#[65]⟩, .string ⟨#[48, 48]⟩, .bool true]) ∧ ∃ n, w' = w.drewN n := by
  go_enter Tryz.func173, Tryz.ntmps173
  go_wp2_with fail
  refine (scut_65 _).mono ?_
  rintro e w1 ⟨rfl, n, rfl⟩
  go_wp2_with fail
  go_ret3
  exact ⟨rfl, n, rfl⟩
set_option maxRecDepth 100000 in
set_option maxHeartbeats 4000000 in
theorem rname_65 (w : World) :
    Calls Tryz.prog 174 #[.string ⟨#[65]⟩, .int .i64 6] w fun e w' => e = .returned (.bool true) ∧ w' = w := by
  go_enter Tryz.func174, Tryz.ntmps174
  go_wp2_with fail
  go_loop [27] (fun i => ∃ k : Nat, k ≤ 1 ∧ i = .int .i64 (k : Int)) (fun i => 1 - (intOf i).toNat)
  case atStart => exact ⟨0, by omega, rfl⟩
  case round =>
    obtain ⟨k, hk, rfl⟩ := hrel
    obtain rfl | rfl : k = 0 ∨ k = 1 := by omega
    · go_wp2_with fail
      go_round
      case rel => exact ⟨1, by omega, rfl⟩
      case measure => simp [intOf]
    · go_wp2_with fail
      go_ret
      exact ⟨rfl, rfl⟩
set_option maxRecDepth 100000 in
set_option maxHeartbeats 4000000 in
theorem sbyte_66 (w : World) :
    Calls Tryz.prog 189 #[.string ⟨#[66, 47, 48, 48]⟩, .int .u8 47] w fun e w' => e = .returned (.int .i64 1) ∧ w' = w := by
  go_enter Tryz.func189, Tryz.ntmps189
  go_wp2_with fail
  rw [run_callFunc_extern Tryz.func193 (by kernel_rfl) (by kernel_rfl) (by kernel_rfl) (e := Extern.BytealgIndexByte.indexByte) (by kernel_rfl), Lib.run_indexByteString]
  simp only [Result.andThen]
  rw [Oper.upon_value]
  go_wp2_with fail
  all_goals
    go_ret
    exact ⟨rfl, rfl⟩
set_option maxRecDepth 100000 in
set_option maxHeartbeats 4000000 in
theorem sidx_66 (w : World) :
    Calls Tryz.prog 187 #[.string ⟨#[66, 47, 48, 48]⟩, .string ⟨#[47]⟩] w fun e w' => e = .returned (.int .i64 1) ∧ w' = w := by
  go_enter Tryz.func187, Tryz.ntmps187
  go_wp2_with fail
  refine (sbyte_66 _).mono ?_
  rintro e w1 ⟨rfl, rfl⟩
  go_wp2_with fail
  all_goals
    go_ret
    exact ⟨rfl, rfl⟩
set_option maxRecDepth 100000 in
set_option maxHeartbeats 4000000 in
theorem scut_66 (w : World) :
    Calls Tryz.prog 183 #[.string ⟨#[66, 47, 48, 48]⟩, .string ⟨#[47]⟩] w fun e w' => e = .returned (.tuple #[.string ⟨#[66]⟩, .string ⟨#[48, 48]⟩, .bool true]) ∧ ∃ n, w' = w.drewN n := by
  go_enter Tryz.func183, Tryz.ntmps183
  go_wp2_with fail
  refine (sidx_66 _).mono ?_
  rintro e w1 ⟨rfl, rfl⟩
  go_wp2_with fail
  go_quiet (fail)
  go_wp2_with fail
  go_ret3
  exact ⟨rfl, _, rfl⟩
set_option maxRecDepth 100000 in
set_option maxHeartbeats 4000000 in
theorem gcut_66 (w : World) :
    Calls Tryz.prog 173 #[.string ⟨#[66, 47, 48, 48]⟩, .string ⟨#[47]⟩] w fun e w' => e = .returned (.tuple #[.string ⟨#[66]⟩, .string ⟨#[48, 48]⟩, .bool true]) ∧ ∃ n, w' = w.drewN n := by
  go_enter Tryz.func173, Tryz.ntmps173
  go_wp2_with fail
  refine (scut_66 _).mono ?_
  rintro e w1 ⟨rfl, n, rfl⟩
  go_wp2_with fail
  go_ret3
  exact ⟨rfl, n, rfl⟩
set_option maxRecDepth 100000 in
set_option maxHeartbeats 4000000 in
theorem rname_66 (w : World) :
    Calls Tryz.prog 174 #[.string ⟨#[66]⟩, .int .i64 6] w fun e w' => e = .returned (.bool true) ∧ w' = w := by
  go_enter Tryz.func174, Tryz.ntmps174
  go_wp2_with fail
  go_loop [27] (fun i => ∃ k : Nat, k ≤ 1 ∧ i = .int .i64 (k : Int)) (fun i => 1 - (intOf i).toNat)
  case atStart => exact ⟨0, by omega, rfl⟩
  case round =>
    obtain ⟨k, hk, rfl⟩ := hrel
    obtain rfl | rfl : k = 0 ∨ k = 1 := by omega
    · go_wp2_with fail
      go_round
      case rel => exact ⟨1, by omega, rfl⟩
      case measure => simp [intOf]
    · go_wp2_with fail
      go_ret
      exact ⟨rfl, rfl⟩
set_option maxRecDepth 100000 in
set_option maxHeartbeats 4000000 in
theorem sbyte_67 (w : World) :
    Calls Tryz.prog 189 #[.string ⟨#[67, 47, 48, 48]⟩, .int .u8 47] w fun e w' => e = .returned (.int .i64 1) ∧ w' = w := by
  go_enter Tryz.func189, Tryz.ntmps189
  go_wp2_with fail
  rw [run_callFunc_extern Tryz.func193 (by kernel_rfl) (by kernel_rfl) (by kernel_rfl) (e := Extern.BytealgIndexByte.indexByte) (by kernel_rfl), Lib.run_indexByteString]
  simp only [Result.andThen]
  rw [Oper.upon_value]
  go_wp2_with fail
  all_goals
    go_ret
    exact ⟨rfl, rfl⟩
set_option maxRecDepth 100000 in
set_option maxHeartbeats 4000000 in
theorem sidx_67 (w : World) :
    Calls Tryz.prog 187 #[.string ⟨#[67, 47, 48, 48]⟩, .string ⟨#[47]⟩] w fun e w' => e = .returned (.int .i64 1) ∧ w' = w := by
  go_enter Tryz.func187, Tryz.ntmps187
  go_wp2_with fail
  refine (sbyte_67 _).mono ?_
  rintro e w1 ⟨rfl, rfl⟩
  go_wp2_with fail
  all_goals
    go_ret
    exact ⟨rfl, rfl⟩
set_option maxRecDepth 100000 in
set_option maxHeartbeats 4000000 in
theorem scut_67 (w : World) :
    Calls Tryz.prog 183 #[.string ⟨#[67, 47, 48, 48]⟩, .string ⟨#[47]⟩] w fun e w' => e = .returned (.tuple #[.string ⟨#[67]⟩, .string ⟨#[48, 48]⟩, .bool true]) ∧ ∃ n, w' = w.drewN n := by
  go_enter Tryz.func183, Tryz.ntmps183
  go_wp2_with fail
  refine (sidx_67 _).mono ?_
  rintro e w1 ⟨rfl, rfl⟩
  go_wp2_with fail
  go_quiet (fail)
  go_wp2_with fail
  go_ret3
  exact ⟨rfl, _, rfl⟩
set_option maxRecDepth 100000 in
set_option maxHeartbeats 4000000 in
theorem gcut_67 (w : World) :
    Calls Tryz.prog 173 #[.string ⟨#[67, 47, 48, 48]⟩, .string ⟨#[47]⟩] w fun e w' => e = .returned (.tuple #[.string ⟨#[67]⟩, .string ⟨#[48, 48]⟩, .bool true]) ∧ ∃ n, w' = w.drewN n := by
  go_enter Tryz.func173, Tryz.ntmps173
  go_wp2_with fail
  refine (scut_67 _).mono ?_
  rintro e w1 ⟨rfl, n, rfl⟩
  go_wp2_with fail
  go_ret3
  exact ⟨rfl, n, rfl⟩
set_option maxRecDepth 100000 in
set_option maxHeartbeats 4000000 in
theorem rname_67 (w : World) :
    Calls Tryz.prog 174 #[.string ⟨#[67]⟩, .int .i64 6] w fun e w' => e = .returned (.bool true) ∧ w' = w := by
  go_enter Tryz.func174, Tryz.ntmps174
  go_wp2_with fail
  go_loop [27] (fun i => ∃ k : Nat, k ≤ 1 ∧ i = .int .i64 (k : Int)) (fun i => 1 - (intOf i).toNat)
  case atStart => exact ⟨0, by omega, rfl⟩
  case round =>
    obtain ⟨k, hk, rfl⟩ := hrel
    obtain rfl | rfl : k = 0 ∨ k = 1 := by omega
    · go_wp2_with fail
      go_round
      case rel => exact ⟨1, by omega, rfl⟩
      case measure => simp [intOf]
    · go_wp2_with fail
      go_ret
      exact ⟨rfl, rfl⟩
set_option maxRecDepth 100000 in
set_option maxHeartbeats 4000000 in
theorem rname_no (w : World) :
    Calls Tryz.prog 174 #[.string ⟨#[48, 48]⟩, .int .i64 6] w fun e w' => e = .returned (.bool false) ∧ w' = w := by
  go_enter Tryz.func174, Tryz.ntmps174
  go_wp2_with fail
  all_goals
    go_ret
    exact ⟨rfl, rfl⟩
set_option maxRecDepth 100000 in
set_option maxHeartbeats 4000000 in
theorem short_00 (w : World) :
    Calls Tryz.prog 184 #[.string ⟨#[48, 48]⟩] w fun e w' => e = .returned (.bool true) ∧ w' = w := by
  go_enter Tryz.func184, Tryz.ntmps184
  go_wp2_with fail
  go_loop [9] (fun i => ∃ k : Nat, k ≤ 2 ∧ i = .int .i64 (k : Int)) (fun i => 2 - (intOf i).toNat)
  case atStart => exact ⟨0, by omega, rfl⟩
  case round =>
    obtain ⟨k, hk, rfl⟩ := hrel
    obtain rfl | rfl | rfl : k = 0 ∨ k = 1 ∨ k = 2 := by omega
    · go_wp2_with fail
      go_round
      case rel => exact ⟨1, by omega, rfl⟩
      case measure => simp [intOf]
    · go_wp2_with fail
      go_round
      case rel => exact ⟨2, by omega, rfl⟩
      case measure => simp [intOf]
    · go_wp2_with fail
      go_ret
      exact ⟨rfl, rfl⟩
set_option maxRecDepth 100000 in
set_option maxHeartbeats 4000000 in
theorem split_65 (w : World) :
    Calls Tryz.prog 175 #[.string ⟨#[65, 47, 48, 48]⟩] w fun e w' => e = .returned (.tuple #[.string ⟨#[65]⟩, .string ⟨#[48, 48]⟩, .int .i64 0]) ∧ ∃ n, w' = w.drewN n := by
  go_enter Tryz.func175, Tryz.ntmps175
  go_wp2_with (first
    | (go_at_call 173; with_reducible refine (gcut_65 _).mono ?_; rintro e w1 ⟨rfl, n, rfl⟩)
    | (go_at_call 174; with_reducible refine (rname_65 _).mono ?_; rintro e w2 ⟨rfl, rfl⟩)
    | (go_at_call 174; with_reducible refine (rname_no _).mono ?_; rintro e w3 ⟨rfl, rfl⟩)
    | (go_at_call 184; with_reducible refine (short_00 _).mono ?_; rintro e w4 ⟨rfl, rfl⟩))
  go_ret3
  exact ⟨rfl, n, rfl⟩
set_option maxRecDepth 100000 in
set_option maxHeartbeats 4000000 in
theorem ref_65 (w : World) :
    Calls Tryz.prog 152 #[.string ⟨#[65, 47, 48, 48]⟩, .bool true] w fun e w' => e = .returned (.int .i64 0) ∧ ∃ n, w' = w.drewN n := by
  go_enter Tryz.func152, Tryz.ntmps152
  go_wp2_with fail
  refine (split_65 _).mono ?_
  rintro e w1 ⟨rfl, n, rfl⟩
  go_wp2_with fail
  all_goals
    go_ret
    exact ⟨rfl, n, rfl⟩
set_option maxRecDepth 100000 in
set_option maxHeartbeats 4000000 in
theorem split_66 (w : World) :
    Calls Tryz.prog 175 #[.string ⟨#[66, 47, 48, 48]⟩] w fun e w' => e = .returned (.tuple #[.string ⟨#[66]⟩, .string ⟨#[48, 48]⟩, .int .i64 0]) ∧ ∃ n, w' = w.drewN n := by
  go_enter Tryz.func175, Tryz.ntmps175
  go_wp2_with (first
    | (go_at_call 173; with_reducible refine (gcut_66 _).mono ?_; rintro e w1 ⟨rfl, n, rfl⟩)
    | (go_at_call 174; with_reducible refine (rname_66 _).mono ?_; rintro e w2 ⟨rfl, rfl⟩)
    | (go_at_call 174; with_reducible refine (rname_no _).mono ?_; rintro e w3 ⟨rfl, rfl⟩)
    | (go_at_call 184; with_reducible refine (short_00 _).mono ?_; rintro e w4 ⟨rfl, rfl⟩))
  go_ret3
  exact ⟨rfl, n, rfl⟩
set_option maxRecDepth 100000 in
set_option maxHeartbeats 4000000 in
theorem ref_66 (w : World) :
    Calls Tryz.prog 152 #[.string ⟨#[66, 47, 48, 48]⟩, .bool true] w fun e w' => e = .returned (.int .i64 0) ∧ ∃ n, w' = w.drewN n := by
  go_enter Tryz.func152, Tryz.ntmps152
  go_wp2_with fail
  refine (split_66 _).mono ?_
  rintro e w1 ⟨rfl, n, rfl⟩
  go_wp2_with fail
  all_goals
    go_ret
    exact ⟨rfl, n, rfl⟩
set_option maxRecDepth 100000 in
set_option maxHeartbeats 4000000 in
theorem split_67 (w : World) :
    Calls Tryz.prog 175 #[.string ⟨#[67, 47, 48, 48]⟩] w fun e w' => e = .returned (.tuple #[.string ⟨#[67]⟩, .string ⟨#[48, 48]⟩, .int .i64 0]) ∧ ∃ n, w' = w.drewN n := by
  go_enter Tryz.func175, Tryz.ntmps175
  go_wp2_with (first
    | (go_at_call 173; with_reducible refine (gcut_67 _).mono ?_; rintro e w1 ⟨rfl, n, rfl⟩)
    | (go_at_call 174; with_reducible refine (rname_67 _).mono ?_; rintro e w2 ⟨rfl, rfl⟩)
    | (go_at_call 174; with_reducible refine (rname_no _).mono ?_; rintro e w3 ⟨rfl, rfl⟩)
    | (go_at_call 184; with_reducible refine (short_00 _).mono ?_; rintro e w4 ⟨rfl, rfl⟩))
  go_ret3
  exact ⟨rfl, n, rfl⟩
set_option maxRecDepth 100000 in
set_option maxHeartbeats 4000000 in
theorem ref_67 (w : World) :
    Calls Tryz.prog 152 #[.string ⟨#[67, 47, 48, 48]⟩, .bool true] w fun e w' => e = .returned (.int .i64 0) ∧ ∃ n, w' = w.drewN n := by
  go_enter Tryz.func152, Tryz.ntmps152
  go_wp2_with fail
  refine (split_67 _).mono ?_
  rintro e w1 ⟨rfl, n, rfl⟩
  go_wp2_with fail
  all_goals
    go_ret
    exact ⟨rfl, n, rfl⟩
set_option maxRecDepth 100000 in
set_option maxHeartbeats 4000000 in
theorem ref_no (w : World) :
    Calls Tryz.prog 152 #[.string ⟨#[]⟩, .bool false] w fun e w' => e = .returned (.int .i64 0) ∧ w' = w := by
  go_enter Tryz.func152, Tryz.ntmps152
  go_wp2_with fail
  all_goals
    go_ret
    exact ⟨rfl, rfl⟩
set_option maxRecDepth 100000 in
set_option maxHeartbeats 4000000 in
theorem num_no (w : World) (lo hi : Int) :
    Calls Tryz.prog 153 #[.int .i64 0, .bool false, .int .i64 lo, .int .i64 hi] w fun e w' => e = .returned (.int .i64 0) ∧ w' = w := by
  go_enter Tryz.func153, Tryz.ntmps153
  go_wp2_with fail
  all_goals
    go_ret
    exact ⟨rfl, rfl⟩
end Go.Proofs.YtapgmnjpfcohhaaGreatDoor
/-
  leg.Check and plan.alone on the entries of the example.
-/
namespace Go.Proofs.YtapgmnjpfcohhaaGreatDoor
open Go.RowKit
set_option linter.unusedVariables false
set_option linter.unusedSimpArgs false
set_option maxRecDepth 100000 in
set_option maxHeartbeats 8000000 in
theorem known_any (t : Int) (w : World) (h1 : 1 ≤ t) (h2 : t ≤ 17) : Calls Tryz.prog 151 #[.int .u8 t] w fun e w' => e = .returned (.bool true) ∧ w' = w := by
  go_enter Tryz.func151, Tryz.ntmps151
  go_wp2_with fail
  all_goals
    go_ret
    exact ⟨rfl, rfl⟩
set_option maxRecDepth 100000 in
set_option maxHeartbeats 8000000 in
theorem lcheck_0 (w : World) (hu : Hid (usesAt w)) :
    Calls Tryz.prog 119 #[.agg #[.int .u8 1, .string ⟨#[65, 47, 48, 48]⟩, .string ⟨#[]⟩, .int .u8 0, .bool false, .int .i64 0, .int .i64 0, .int .i64 0, .int .i64 0, .int .i64 (-200000), .int .i64 6000000, .int .i64 0, .int .i64 0]] w fun e w' => e = .returned (.int .i64 0) ∧ Below w.heap.size w w' := by
  have u0 : w.cell? ⟨2, 1, none⟩ = some (.int .u16 1) := hu.out 1 _ rfl
  have zu : 2 < w.heap.size := World.block_lt_of_cell? _ _ u0
  have bt1 : bits .and .u16 1 1 = 1 := by decide
  have bt2 : bits .and .u16 1 2 = 0 := by decide
  have bt4 : bits .and .u16 1 4 = 0 := by decide
  have bt8 : bits .and .u16 1 8 = 0 := by decide
  have bt16 : bits .and .u16 1 16 = 0 := by decide
  have bt32 : bits .and .u16 1 32 = 0 := by decide
  have bt64 : bits .and .u16 1 64 = 0 := by decide
  have bt128 : bits .and .u16 1 128 = 0 := by decide
  go_enter Tryz.func119, Tryz.ntmps119
  go_wp2_with (first
    | (go_at_call 151; with_reducible refine (known_any _ _ (by decide) (by decide)).mono ?_; rintro e w1 ⟨rfl, rfl⟩)
    | (go_at_call 152; with_reducible refine (ref_65 _).mono ?_; rintro e w2 ⟨rfl, n, rfl⟩)
    | (go_at_call 152; with_reducible refine (ref_no _).mono ?_; rintro e w3 ⟨rfl, rfl⟩)
    | (go_at_call 153; with_reducible refine (num_no _ _ _).mono ?_; rintro e w4 ⟨rfl, rfl⟩))
  all_goals
    go_ret
    exact ⟨rfl, by (repeat (with_reducible (first | assumption | exact Below.refl _ _ | refine Below.drew ?_ | refine below_drewN ?_ _ | refine below_set ?_ (by simp; try omega) _ | refine below_alloc ?_ (Nat.le_refl _) _ | refine below_sub (by assumption) ?_)))⟩
set_option maxRecDepth 100000 in
set_option maxHeartbeats 8000000 in
theorem lcheck_1 (w : World) (hu : Hid (usesAt w)) :
    Calls Tryz.prog 119 #[.agg #[.int .u8 2, .string ⟨#[66, 47, 48, 48]⟩, .string ⟨#[]⟩, .int .u8 0, .bool false, .int .i64 0, .int .i64 0, .int .i64 0, .int .i64 0, .int .i64 (-200000), .int .i64 6000000, .int .i64 0, .int .i64 0]] w fun e w' => e = .returned (.int .i64 0) ∧ Below w.heap.size w w' := by
  have u0 : w.cell? ⟨2, 2, none⟩ = some (.int .u16 9) := hu.out 2 _ rfl
  have zu : 2 < w.heap.size := World.block_lt_of_cell? _ _ u0
  have bt1 : bits .and .u16 9 1 = 1 := by decide
  have bt2 : bits .and .u16 9 2 = 0 := by decide
  have bt4 : bits .and .u16 9 4 = 0 := by decide
  have bt8 : bits .and .u16 9 8 = 8 := by decide
  have bt16 : bits .and .u16 9 16 = 0 := by decide
  have bt32 : bits .and .u16 9 32 = 0 := by decide
  have bt64 : bits .and .u16 9 64 = 0 := by decide
  have bt128 : bits .and .u16 9 128 = 0 := by decide
  go_enter Tryz.func119, Tryz.ntmps119
  go_wp2_with (first
    | (go_at_call 151; with_reducible refine (known_any _ _ (by decide) (by decide)).mono ?_; rintro e w1 ⟨rfl, rfl⟩)
    | (go_at_call 152; with_reducible refine (ref_66 _).mono ?_; rintro e w2 ⟨rfl, n, rfl⟩)
    | (go_at_call 152; with_reducible refine (ref_no _).mono ?_; rintro e w3 ⟨rfl, rfl⟩)
    | (go_at_call 153; with_reducible refine (num_no _ _ _).mono ?_; rintro e w4 ⟨rfl, rfl⟩))
  all_goals
    go_ret
    exact ⟨rfl, by (repeat (with_reducible (first | assumption | exact Below.refl _ _ | refine Below.drew ?_ | refine below_drewN ?_ _ | refine below_set ?_ (by simp; try omega) _ | refine below_alloc ?_ (Nat.le_refl _) _ | refine below_sub (by assumption) ?_)))⟩
set_option maxRecDepth 100000 in
set_option maxHeartbeats 8000000 in
theorem lcheck_2 (w : World) (hu : Hid (usesAt w)) :
    Calls Tryz.prog 119 #[.agg #[.int .u8 2, .string ⟨#[67, 47, 48, 48]⟩, .string ⟨#[]⟩, .int .u8 0, .bool false, .int .i64 0, .int .i64 0, .int .i64 0, .int .i64 0, .int .i64 (-200000), .int .i64 6000000, .int .i64 0, .int .i64 0]] w fun e w' => e = .returned (.int .i64 0) ∧ Below w.heap.size w w' := by
  have u0 : w.cell? ⟨2, 2, none⟩ = some (.int .u16 9) := hu.out 2 _ rfl
  have zu : 2 < w.heap.size := World.block_lt_of_cell? _ _ u0
  have bt1 : bits .and .u16 9 1 = 1 := by decide
  have bt2 : bits .and .u16 9 2 = 0 := by decide
  have bt4 : bits .and .u16 9 4 = 0 := by decide
  have bt8 : bits .and .u16 9 8 = 8 := by decide
  have bt16 : bits .and .u16 9 16 = 0 := by decide
  have bt32 : bits .and .u16 9 32 = 0 := by decide
  have bt64 : bits .and .u16 9 64 = 0 := by decide
  have bt128 : bits .and .u16 9 128 = 0 := by decide
  go_enter Tryz.func119, Tryz.ntmps119
  go_wp2_with (first
    | (go_at_call 151; with_reducible refine (known_any _ _ (by decide) (by decide)).mono ?_; rintro e w1 ⟨rfl, rfl⟩)
    | (go_at_call 152; with_reducible refine (ref_67 _).mono ?_; rintro e w2 ⟨rfl, n, rfl⟩)
    | (go_at_call 152; with_reducible refine (ref_no _).mono ?_; rintro e w3 ⟨rfl, rfl⟩)
    | (go_at_call 153; with_reducible refine (num_no _ _ _).mono ?_; rintro e w4 ⟨rfl, rfl⟩))
  all_goals
    go_ret
    exact ⟨rfl, by (repeat (with_reducible (first | assumption | exact Below.refl _ _ | refine Below.drew ?_ | refine below_drewN ?_ _ | refine below_set ?_ (by simp; try omega) _ | refine below_alloc ?_ (Nat.le_refl _) _ | refine below_sub (by assumption) ?_)))⟩
set_option maxRecDepth 100000 in
set_option maxHeartbeats 8000000 in
theorem sect_2 (w : World) : Calls Tryz.prog 146 #[.int .u8 2] w fun e w' => e = .returned (.bool true) ∧ w' = w := by
  go_enter Tryz.func146, Tryz.ntmps146
  go_wp2_with fail
  all_goals
    go_ret
    exact ⟨rfl, rfl⟩
set_option maxRecDepth 100000 in
set_option maxHeartbeats 8000000 in
theorem way_0 (w : World) : Calls Tryz.prog 147 #[.string ⟨#[]⟩] w fun e w' => e = .returned (.bool true) ∧ w' = w := by
  go_enter Tryz.func147, Tryz.ntmps147
  go_wp2_with fail
  all_goals
    go_ret
    exact ⟨rfl, rfl⟩
set_option maxRecDepth 100000 in
set_option maxHeartbeats 8000000 in
theorem place_0 (w : World) : Calls Tryz.prog 114 #[.string ⟨#[]⟩] w fun e w' => e = .returned (.bool true) ∧ w' = w := by
  go_enter Tryz.func114, Tryz.ntmps114
  go_wp2_with fail
  all_goals
    go_ret
    exact ⟨rfl, rfl⟩
set_option maxRecDepth 100000 in
set_option maxHeartbeats 8000000 in
theorem alone_0 (w : World) (hu : Hid (usesAt w)) :
    Calls Tryz.prog 115 #[.agg #[.bool false, .int .u8 1, .string ⟨#[65, 47, 48, 48]⟩, .string ⟨#[]⟩, .int .u8 0, .bool false, .int .i64 0, .int .i64 0, .int .i64 0, .int .i64 0, .int .i64 (-200000), .int .i64 6000000, .int .i64 0, .int .i64 0, .int .i64 0, .int .i64 (-30000), .int .i64 0, .int .i64 0, .int .u8 2, .string ⟨#[]⟩]] w fun e w' => e = .returned (.int .i64 0) ∧ Below w.heap.size w w' := by
  have v1 : vldB 0 (-30000) = true := by decide +kernel
  have v2 : vldB 0 0 = true := by decide +kernel
  have PV := fun W => pvalid_any 0 (-30000) W
  have PW := fun W => pvalid_any 0 0 W
  rw [v1] at PV
  rw [v2] at PW
  go_enter Tryz.func115, Tryz.ntmps115
  go_wp2_with fail
  refine (lcheck_0 _ (hide (usesAt_below (show Below w.heap.size w _ by (repeat (with_reducible (first | assumption | exact Below.refl _ _ | refine Below.drew ?_ | refine below_drewN ?_ _ | refine below_set ?_ (by simp; try omega) _ | refine below_alloc ?_ (Nat.le_refl _) _ | refine below_sub (by assumption) ?_)))) hu.out))).mono ?_
  rintro e w1 ⟨rfl, hb1⟩
  obtain ⟨f1, f2, f3, f4, f5, f6, f7, f8, f9, f10, f11, f12, f13, f14, f15, f16, f17, f18, f19, f20⟩ : w1.cell? ⟨w.heap.size, 0, none⟩ = some (.bool false) ∧ w1.cell? ⟨w.heap.size, 1, none⟩ = some (.int .u8 1) ∧ w1.cell? ⟨w.heap.size, 2, none⟩ = some (.string ⟨#[65, 47, 48, 48]⟩) ∧ w1.cell? ⟨w.heap.size, 3, none⟩ = some (.string ⟨#[]⟩) ∧ w1.cell? ⟨w.heap.size, 4, none⟩ = some (.int .u8 0) ∧ w1.cell? ⟨w.heap.size, 5, none⟩ = some (.bool false) ∧ w1.cell? ⟨w.heap.size, 6, none⟩ = some (.int .i64 0) ∧ w1.cell? ⟨w.heap.size, 7, none⟩ = some (.int .i64 0) ∧ w1.cell? ⟨w.heap.size, 8, none⟩ = some (.int .i64 0) ∧ w1.cell? ⟨w.heap.size, 9, none⟩ = some (.int .i64 0) ∧ w1.cell? ⟨w.heap.size, 10, none⟩ = some (.int .i64 (-200000)) ∧ w1.cell? ⟨w.heap.size, 11, none⟩ = some (.int .i64 6000000) ∧ w1.cell? ⟨w.heap.size, 12, none⟩ = some (.int .i64 0) ∧ w1.cell? ⟨w.heap.size, 13, none⟩ = some (.int .i64 0) ∧ w1.cell? ⟨w.heap.size, 14, none⟩ = some (.int .i64 0) ∧ w1.cell? ⟨w.heap.size, 15, none⟩ = some (.int .i64 (-30000)) ∧ w1.cell? ⟨w.heap.size, 16, none⟩ = some (.int .i64 0) ∧ w1.cell? ⟨w.heap.size, 17, none⟩ = some (.int .i64 0) ∧ w1.cell? ⟨w.heap.size, 18, none⟩ = some (.int .u8 2) ∧ w1.cell? ⟨w.heap.size, 19, none⟩ = some (.string ⟨#[]⟩) := by
    refine ⟨?_, ?_, ?_, ?_, ?_, ?_, ?_, ?_, ?_, ?_, ?_, ?_, ?_, ?_, ?_, ?_, ?_, ?_, ?_, ?_⟩ <;> (refine cell_below hb1 ?_; repeat (first | (with_reducible assumption) | ((with_reducible refine cell_set ?_ ?_ _); (· first | (simp; done) | (simp; omega) | omega)) | ((with_reducible refine cell_new ?_ ?_); (· (simp; done)); (· rfl)) | (with_reducible refine cell_alloc ?_ _) | (with_reducible refine cell_drew ?_) | (with_reducible refine cell_drewN ?_ _) | (with_reducible refine cell_below (by assumption) ?_)))
  have zf1 : w.heap.size < w1.heap.size := World.block_lt_of_cell? _ _ f1
  go_wp2_with (first
    | (go_at_call 146; with_reducible refine (sect_2 _).mono ?_; rintro e w2 ⟨rfl, rfl⟩)
    | (go_at_call 147; with_reducible refine (way_0 _).mono ?_; rintro e w3 ⟨rfl, rfl⟩)
    | (go_at_call 40; with_reducible refine (PV _).mono ?_; rintro e w4 ⟨rfl, rfl⟩)
    | (go_at_call 40; with_reducible refine (PW _).mono ?_; rintro e w5 ⟨rfl, rfl⟩))
  all_goals
    go_ret
    exact ⟨rfl, by (repeat (with_reducible (first | assumption | exact Below.refl _ _ | refine Below.drew ?_ | refine below_drewN ?_ _ | refine below_set ?_ (by simp; try omega) _ | refine below_alloc ?_ (Nat.le_refl _) _ | refine below_sub (by assumption) ?_)))⟩
set_option maxRecDepth 100000 in
set_option maxHeartbeats 8000000 in
theorem alone_1 (w : World) (hu : Hid (usesAt w)) :
    Calls Tryz.prog 115 #[.agg #[.bool false, .int .u8 2, .string ⟨#[66, 47, 48, 48]⟩, .string ⟨#[]⟩, .int .u8 0, .bool false, .int .i64 0, .int .i64 0, .int .i64 0, .int .i64 0, .int .i64 (-200000), .int .i64 6000000, .int .i64 0, .int .i64 0, .int .i64 0, .int .i64 0, .int .i64 0, .int .i64 0, .int .u8 2, .string ⟨#[]⟩]] w fun e w' => e = .returned (.int .i64 0) ∧ Below w.heap.size w w' := by
  have v1 : vldB 0 0 = true := by decide +kernel
  have v2 : vldB 0 0 = true := by decide +kernel
  have PV := fun W => pvalid_any 0 0 W
  have PW := fun W => pvalid_any 0 0 W
  rw [v1] at PV
  rw [v2] at PW
  go_enter Tryz.func115, Tryz.ntmps115
  go_wp2_with fail
  refine (lcheck_1 _ (hide (usesAt_below (show Below w.heap.size w _ by (repeat (with_reducible (first | assumption | exact Below.refl _ _ | refine Below.drew ?_ | refine below_drewN ?_ _ | refine below_set ?_ (by simp; try omega) _ | refine below_alloc ?_ (Nat.le_refl _) _ | refine below_sub (by assumption) ?_)))) hu.out))).mono ?_
  rintro e w1 ⟨rfl, hb1⟩
  obtain ⟨f1, f2, f3, f4, f5, f6, f7, f8, f9, f10, f11, f12, f13, f14, f15, f16, f17, f18, f19, f20⟩ : w1.cell? ⟨w.heap.size, 0, none⟩ = some (.bool false) ∧ w1.cell? ⟨w.heap.size, 1, none⟩ = some (.int .u8 2) ∧ w1.cell? ⟨w.heap.size, 2, none⟩ = some (.string ⟨#[66, 47, 48, 48]⟩) ∧ w1.cell? ⟨w.heap.size, 3, none⟩ = some (.string ⟨#[]⟩) ∧ w1.cell? ⟨w.heap.size, 4, none⟩ = some (.int .u8 0) ∧ w1.cell? ⟨w.heap.size, 5, none⟩ = some (.bool false) ∧ w1.cell? ⟨w.heap.size, 6, none⟩ = some (.int .i64 0) ∧ w1.cell? ⟨w.heap.size, 7, none⟩ = some (.int .i64 0) ∧ w1.cell? ⟨w.heap.size, 8, none⟩ = some (.int .i64 0) ∧ w1.cell? ⟨w.heap.size, 9, none⟩ = some (.int .i64 0) ∧ w1.cell? ⟨w.heap.size, 10, none⟩ = some (.int .i64 (-200000)) ∧ w1.cell? ⟨w.heap.size, 11, none⟩ = some (.int .i64 6000000) ∧ w1.cell? ⟨w.heap.size, 12, none⟩ = some (.int .i64 0) ∧ w1.cell? ⟨w.heap.size, 13, none⟩ = some (.int .i64 0) ∧ w1.cell? ⟨w.heap.size, 14, none⟩ = some (.int .i64 0) ∧ w1.cell? ⟨w.heap.size, 15, none⟩ = some (.int .i64 0) ∧ w1.cell? ⟨w.heap.size, 16, none⟩ = some (.int .i64 0) ∧ w1.cell? ⟨w.heap.size, 17, none⟩ = some (.int .i64 0) ∧ w1.cell? ⟨w.heap.size, 18, none⟩ = some (.int .u8 2) ∧ w1.cell? ⟨w.heap.size, 19, none⟩ = some (.string ⟨#[]⟩) := by
    refine ⟨?_, ?_, ?_, ?_, ?_, ?_, ?_, ?_, ?_, ?_, ?_, ?_, ?_, ?_, ?_, ?_, ?_, ?_, ?_, ?_⟩ <;> (refine cell_below hb1 ?_; repeat (first | (with_reducible assumption) | ((with_reducible refine cell_set ?_ ?_ _); (· first | (simp; done) | (simp; omega) | omega)) | ((with_reducible refine cell_new ?_ ?_); (· (simp; done)); (· rfl)) | (with_reducible refine cell_alloc ?_ _) | (with_reducible refine cell_drew ?_) | (with_reducible refine cell_drewN ?_ _) | (with_reducible refine cell_below (by assumption) ?_)))
  have zf1 : w.heap.size < w1.heap.size := World.block_lt_of_cell? _ _ f1
  go_wp2_with (first
    | (go_at_call 146; with_reducible refine (sect_2 _).mono ?_; rintro e w2 ⟨rfl, rfl⟩)
    | (go_at_call 147; with_reducible refine (way_0 _).mono ?_; rintro e w3 ⟨rfl, rfl⟩)
    | (go_at_call 40; with_reducible refine (PV _).mono ?_; rintro e w4 ⟨rfl, rfl⟩)
    | (go_at_call 40; with_reducible refine (PW _).mono ?_; rintro e w5 ⟨rfl, rfl⟩))
  all_goals
    go_ret
    exact ⟨rfl, by (repeat (with_reducible (first | assumption | exact Below.refl _ _ | refine Below.drew ?_ | refine below_drewN ?_ _ | refine below_set ?_ (by simp; try omega) _ | refine below_alloc ?_ (Nat.le_refl _) _ | refine below_sub (by assumption) ?_)))⟩
set_option maxRecDepth 100000 in
set_option maxHeartbeats 8000000 in
theorem alone_2 (w : World) (hu : Hid (usesAt w)) :
    Calls Tryz.prog 115 #[.agg #[.bool false, .int .u8 2, .string ⟨#[67, 47, 48, 48]⟩, .string ⟨#[]⟩, .int .u8 0, .bool false, .int .i64 0, .int .i64 0, .int .i64 0, .int .i64 0, .int .i64 (-200000), .int .i64 6000000, .int .i64 0, .int .i64 0, .int .i64 30000, .int .i64 0, .int .i64 0, .int .i64 0, .int .u8 2, .string ⟨#[]⟩]] w fun e w' => e = .returned (.int .i64 0) ∧ Below w.heap.size w w' := by
  have v1 : vldB 30000 0 = true := by decide +kernel
  have v2 : vldB 0 0 = true := by decide +kernel
  have PV := fun W => pvalid_any 30000 0 W
  have PW := fun W => pvalid_any 0 0 W
  rw [v1] at PV
  rw [v2] at PW
  go_enter Tryz.func115, Tryz.ntmps115
  go_wp2_with fail
  refine (lcheck_2 _ (hide (usesAt_below (show Below w.heap.size w _ by (repeat (with_reducible (first | assumption | exact Below.refl _ _ | refine Below.drew ?_ | refine below_drewN ?_ _ | refine below_set ?_ (by simp; try omega) _ | refine below_alloc ?_ (Nat.le_refl _) _ | refine below_sub (by assumption) ?_)))) hu.out))).mono ?_
  rintro e w1 ⟨rfl, hb1⟩
  obtain ⟨f1, f2, f3, f4, f5, f6, f7, f8, f9, f10, f11, f12, f13, f14, f15, f16, f17, f18, f19, f20⟩ : w1.cell? ⟨w.heap.size, 0, none⟩ = some (.bool false) ∧ w1.cell? ⟨w.heap.size, 1, none⟩ = some (.int .u8 2) ∧ w1.cell? ⟨w.heap.size, 2, none⟩ = some (.string ⟨#[67, 47, 48, 48]⟩) ∧ w1.cell? ⟨w.heap.size, 3, none⟩ = some (.string ⟨#[]⟩) ∧ w1.cell? ⟨w.heap.size, 4, none⟩ = some (.int .u8 0) ∧ w1.cell? ⟨w.heap.size, 5, none⟩ = some (.bool false) ∧ w1.cell? ⟨w.heap.size, 6, none⟩ = some (.int .i64 0) ∧ w1.cell? ⟨w.heap.size, 7, none⟩ = some (.int .i64 0) ∧ w1.cell? ⟨w.heap.size, 8, none⟩ = some (.int .i64 0) ∧ w1.cell? ⟨w.heap.size, 9, none⟩ = some (.int .i64 0) ∧ w1.cell? ⟨w.heap.size, 10, none⟩ = some (.int .i64 (-200000)) ∧ w1.cell? ⟨w.heap.size, 11, none⟩ = some (.int .i64 6000000) ∧ w1.cell? ⟨w.heap.size, 12, none⟩ = some (.int .i64 0) ∧ w1.cell? ⟨w.heap.size, 13, none⟩ = some (.int .i64 0) ∧ w1.cell? ⟨w.heap.size, 14, none⟩ = some (.int .i64 30000) ∧ w1.cell? ⟨w.heap.size, 15, none⟩ = some (.int .i64 0) ∧ w1.cell? ⟨w.heap.size, 16, none⟩ = some (.int .i64 0) ∧ w1.cell? ⟨w.heap.size, 17, none⟩ = some (.int .i64 0) ∧ w1.cell? ⟨w.heap.size, 18, none⟩ = some (.int .u8 2) ∧ w1.cell? ⟨w.heap.size, 19, none⟩ = some (.string ⟨#[]⟩) := by
    refine ⟨?_, ?_, ?_, ?_, ?_, ?_, ?_, ?_, ?_, ?_, ?_, ?_, ?_, ?_, ?_, ?_, ?_, ?_, ?_, ?_⟩ <;> (refine cell_below hb1 ?_; repeat (first | (with_reducible assumption) | ((with_reducible refine cell_set ?_ ?_ _); (· first | (simp; done) | (simp; omega) | omega)) | ((with_reducible refine cell_new ?_ ?_); (· (simp; done)); (· rfl)) | (with_reducible refine cell_alloc ?_ _) | (with_reducible refine cell_drew ?_) | (with_reducible refine cell_drewN ?_ _) | (with_reducible refine cell_below (by assumption) ?_)))
  have zf1 : w.heap.size < w1.heap.size := World.block_lt_of_cell? _ _ f1
  go_wp2_with (first
    | (go_at_call 146; with_reducible refine (sect_2 _).mono ?_; rintro e w2 ⟨rfl, rfl⟩)
    | (go_at_call 147; with_reducible refine (way_0 _).mono ?_; rintro e w3 ⟨rfl, rfl⟩)
    | (go_at_call 40; with_reducible refine (PV _).mono ?_; rintro e w4 ⟨rfl, rfl⟩)
    | (go_at_call 40; with_reducible refine (PW _).mono ?_; rintro e w5 ⟨rfl, rfl⟩))
  all_goals
    go_ret
    exact ⟨rfl, by (repeat (with_reducible (first | assumption | exact Below.refl _ _ | refine Below.drew ?_ | refine below_drewN ?_ _ | refine below_set ?_ (by simp; try omega) _ | refine below_alloc ?_ (Nat.le_refl _) _ | refine below_sub (by assumption) ?_)))⟩
end Go.Proofs.YtapgmnjpfcohhaaGreatDoor
