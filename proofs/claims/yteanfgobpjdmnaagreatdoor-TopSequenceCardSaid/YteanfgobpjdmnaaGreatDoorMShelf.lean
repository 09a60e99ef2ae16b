/-
  Contracts of math/bits at this translation, out of the library's contracts that hold over every program (laid by the kit's tool, in plain words): LeadingZeros64, Len64, Mul64; Add64 and Sub64.
-/
import Derived.Shelf.Small.Bits
import Derived.Shelf.Bits.Mul64
import Derived.Shelf.Spec.BitsCarry
import Derived.WalkSpells
import Derived.WalkLawsBesides
import Derived.BigQuiet
import Derived.Lib.ItoaNum
import Derived.ProofKit
import Derived.OpenShut
import Derived.Test.YteanfgobpjdmnaaGreatDoorRows
namespace Go.Proofs
open Go.Shelf
def Tryz.lays134_ren : Go.Shelf.Ren := ⟨fun | 134 => 119 | 129 => 105 | n => n, fun | 53 => 156 | 3 => 3 | 4 => 4 | 46 => 166 | 5 => 5 | 9 => 9 | n => n, fun | n => n⟩
theorem Tryz.lays134 : Go.Proofs.Lays.n134 Tryz.prog Tryz.lays134_ren := {
 mixed := by kernel_rfl
 f129 := Tryz.func105.trans (congrArg some (by kernel_rfl))
 f134 := Tryz.func119.trans (congrArg some (by kernel_rfl))
 t3 := Tryz.underlying3
 a3 := Tryz.isAgg3
 z3 := Tryz.sizeOf3
 v3 := Tryz.zeroValue3
 t4 := Tryz.underlying4
 a4 := Tryz.isAgg4
 z4 := Tryz.sizeOf4
 v4 := Tryz.zeroValue4
 t5 := Tryz.underlying5
 a5 := Tryz.isAgg5
 z5 := Tryz.sizeOf5
 v5 := Tryz.zeroValue5
 t9 := Tryz.underlying9
 a9 := Tryz.isAgg9
 z9 := Tryz.sizeOf9
 v9 := Tryz.zeroValue9
 t46 := Tryz.underlying166
 a46 := Tryz.isAgg166
 z46 := Tryz.sizeOf166
 v46 := Tryz.zeroValue166
 t53 := Tryz.underlying156
 a53 := Tryz.isAgg156
 z53 := Tryz.sizeOf156
 v53 := Tryz.zeroValue156 }
theorem Tryz.bits_LeadingZeros64 (x : Int) (w : World) (h0 : 0 ≤ x) (h1 : x ≤ 18446744073709551615) :
 Calls Tryz.prog 119 #[.int .u64 x] w fun e w' => e = .returned (.int .i64 (64 - (Lib.bitLen x.toNat : Int))) ∧ w' = w := Any.bits_LeadingZeros64 Tryz.lays134 x w h0 h1
def Tryz.lays129_ren : Go.Shelf.Ren := ⟨fun | 129 => 105 | n => n, fun | 53 => 156 | 3 => 3 | 4 => 4 | 46 => 166 | 5 => 5 | 9 => 9 | n => n, fun | n => n⟩
theorem Tryz.lays129 : Go.Proofs.Lays.n129 Tryz.prog Tryz.lays129_ren := {
 mixed := by kernel_rfl
 f129 := Tryz.func105.trans (congrArg some (by kernel_rfl))
 t3 := Tryz.underlying3
 a3 := Tryz.isAgg3
 z3 := Tryz.sizeOf3
 v3 := Tryz.zeroValue3
 t4 := Tryz.underlying4
 a4 := Tryz.isAgg4
 z4 := Tryz.sizeOf4
 v4 := Tryz.zeroValue4
 t5 := Tryz.underlying5
 a5 := Tryz.isAgg5
 z5 := Tryz.sizeOf5
 v5 := Tryz.zeroValue5
 t9 := Tryz.underlying9
 a9 := Tryz.isAgg9
 z9 := Tryz.sizeOf9
 v9 := Tryz.zeroValue9
 t46 := Tryz.underlying166
 a46 := Tryz.isAgg166
 z46 := Tryz.sizeOf166
 v46 := Tryz.zeroValue166
 t53 := Tryz.underlying156
 a53 := Tryz.isAgg156
 z53 := Tryz.sizeOf156
 v53 := Tryz.zeroValue156 }
theorem Tryz.bits_Len64 (x : Int) (w : World) (h0 : 0 ≤ x) (h1 : x ≤ 18446744073709551615) :
 Calls Tryz.prog 105 #[.int .u64 x] w fun e w' => e = .returned (.int .i64 (Lib.bitLen x.toNat)) ∧ w' = w := Any.bits_Len64 Tryz.lays129 x w h0 h1
def Tryz.lays264_ren : Go.Shelf.Ren := ⟨fun | 264 => 102 | n => n, fun | 53 => 156 | 46 => 166 | n => n, fun | n => n⟩
theorem Tryz.lays264 : Go.Proofs.Lays.n264 Tryz.prog Tryz.lays264_ren := {
 mixed := by kernel_rfl
 f264 := Tryz.func102.trans (congrArg some (by kernel_rfl))
 t46 := Tryz.underlying166
 a46 := Tryz.isAgg166
 z46 := Tryz.sizeOf166
 v46 := Tryz.zeroValue166
 t53 := Tryz.underlying156
 a53 := Tryz.isAgg156
 z53 := Tryz.sizeOf156
 v53 := Tryz.zeroValue156 }
open Go.RowKit Go.Lib in
theorem Tryz.bits_Mul64 (x y : Nat) (hx : x < 18446744073709551616) (hy : y < 18446744073709551616) (w : World) :
 Calls Tryz.prog 102 #[.int .u64 x, .int .u64 y] w fun e w' => e = .returned (.tuple #[.int .u64 ((x * y / 18446744073709551616 : Nat) : Int), .int .u64 ((x * y % 18446744073709551616 : Nat) : Int)]) ∧ w' = w := Any.bits_Mul64 Tryz.lays264 x y hx hy w
end Go.Proofs
/-
  math/bits' Add64 and Sub64 at this translation, out of the library's laws.
-/
namespace Go.Proofs
open Go.Shelf
def Tryz.ren7 : Go.Shelf.Ren := ⟨fun | 25 => 141 | 26 => 142 | n => n, fun | 22 => 156 | n => n, fun | n => n⟩
theorem Tryz.lays26 : Lays7.n26 Tryz.prog Tryz.ren7 := {
 mixed := by kernel_rfl
 f26 := Tryz.func142.trans (congrArg some (by kernel_rfl))
 t22 := Tryz.underlying156
 a22 := Tryz.isAgg156
 z22 := Tryz.sizeOf156
 v22 := Tryz.zeroValue156
 i22 := by kernel_rfl }
end Go.Proofs
namespace Go.Proofs.YteanfgobpjdmnaaGreatDoor
theorem UF (x y b : Int) (hx : 0 ≤ x) (hx2 : x < 18446744073709551616) (hy : 0 ≤ y) (hy2 : y < 18446744073709551616) (hc : 0 ≤ b) (hc1 : b ≤ 1) (w : World) :
 (callFunc 142 #[.int .u64 x, .int .u64 y, .int .u64 b]).run Tryz.prog w = .ok (.value (.tuple #[.int .u64 ((x + 18446744073709551616 - y - b) % 18446744073709551616), .int .u64 (if x < y + b then 1 else 0)])) w := by
 obtain ⟨a, rfl⟩ := Int.eq_ofNat_of_zero_le hx
 obtain ⟨c, rfl⟩ := Int.eq_ofNat_of_zero_le hy
 obtain ⟨d, rfl⟩ := Int.eq_ofNat_of_zero_le hc
 have h := Any7.bits_Sub64 Tryz.lays26 a c d (by omega) w
 have e1 : (((a + 18446744073709551616 - c - d) % 18446744073709551616 : Nat) : Int) = ((a : Int) + 18446744073709551616 - c - d) % 18446744073709551616 := by omega
 have e2 : ((if a < c + d then 1 else 0 : Nat) : Int) = if (a : Int) < c + d then 1 else 0 := by split <;> split <;> omega
 rw [e1, e2] at h
 exact h
open Go.RowKit
set_option linter.unusedVariables false
theorem iQ (a b : Nat) (s : Nat) (hb : b < 2 ^ s) (h : a * 2 ^ s < 18446744073709551616) (hb2 : b < 18446744073709551616) : bits .or .u64 ((a * 2 ^ s : Nat) : Int) (b : Int) = ((a * 2 ^ s + b : Nat) : Int) := by
 rw [bits_or_u64_nat _ _ h hb2]
 have := Nat.shiftLeft_add_eq_or_of_lt hb a
 rw [Nat.shiftLeft_eq] at this
 rw [this]
theorem nB (a b : Int) (ha : 0 ≤ a) (ha2 : a < 18446744073709551616) (hb : 0 ≤ b) (hb2 : b ≤ 1) : bits .or .u64 (IntKind.u64.wrap (a * 2)) b = a * 2 % 18446744073709551616 + b := by
 rw [IntKind.wrap_u64]
 obtain ⟨a, rfl⟩ := Int.eq_ofNat_of_zero_le ha
 obtain ⟨b, rfl⟩ := Int.eq_ofNat_of_zero_le hb
 have := iQ (a % 9223372036854775808) b 1 (by omega) (by omega) (by omega)
 rw [show ((a % 9223372036854775808 * 2 ^ 1 : Nat) : Int) = (a : Int) * 2 % 18446744073709551616 from by omega, show ((a % 9223372036854775808 * 2 ^ 1 + b : Nat) : Int) = (a : Int) * 2 % 18446744073709551616 + b from by omega] at this
 exact this
end Go.Proofs.YteanfgobpjdmnaaGreatDoor
