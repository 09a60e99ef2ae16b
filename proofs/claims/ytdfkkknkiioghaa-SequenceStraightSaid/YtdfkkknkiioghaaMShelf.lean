/-
  Contracts of math/bits at this translation, out of the library's contracts that hold over every program (laid by the kit's tool, in plain words): LeadingZeros64, Len64, Mul64; Add64 and Sub64.
-/
import Derived.Shelf.Small.Bits
import Derived.Shelf.Strconv.Itoa0
import Derived.Shelf.Bits.Mul64
import Derived.Test.YtdfkkknkiioghaaProg
import Derived.Shelf.Spec.BitsCarry
namespace Go.Proofs
open Go.Shelf
def Try.lays134_ren : Go.Shelf.Ren := ⟨fun | 134 => 93 | 129 => 92 | n => n, fun | 53 => 92 | 3 => 3 | 4 => 4 | 46 => 100 | 5 => 5 | 9 => 9 | n => n, fun | n => n⟩
theorem Try.lays134 : Go.Proofs.Lays.n134 Try.prog Try.lays134_ren := {
  mixed := by kernel_rfl
  f129 := Try.func92.trans (congrArg some (by kernel_rfl))
  f134 := Try.func93.trans (congrArg some (by kernel_rfl))
  t3 := Try.underlying3
  a3 := Try.isAgg3
  z3 := Try.sizeOf3
  v3 := Try.zeroValue3
  t4 := Try.underlying4
  a4 := Try.isAgg4
  z4 := Try.sizeOf4
  v4 := Try.zeroValue4
  t5 := Try.underlying5
  a5 := Try.isAgg5
  z5 := Try.sizeOf5
  v5 := Try.zeroValue5
  t9 := Try.underlying9
  a9 := Try.isAgg9
  z9 := Try.sizeOf9
  v9 := Try.zeroValue9
  t46 := Try.underlying100
  a46 := Try.isAgg100
  z46 := Try.sizeOf100
  v46 := Try.zeroValue100
  t53 := Try.underlying92
  a53 := Try.isAgg92
  z53 := Try.sizeOf92
  v53 := Try.zeroValue92 }
theorem Try.bits_LeadingZeros64 (x : Int) (w : World) (h0 : 0 ≤ x) (h1 : x ≤ 18446744073709551615) :
    Calls Try.prog 93 #[.int .u64 x] w fun e w' => e = .returned (.int .i64 (64 - (Lib.bitLen x.toNat : Int))) ∧ w' = w := Any.bits_LeadingZeros64 Try.lays134 x w h0 h1
def Try.lays129_ren : Go.Shelf.Ren := ⟨fun | 129 => 92 | n => n, fun | 53 => 92 | 3 => 3 | 4 => 4 | 46 => 100 | 5 => 5 | 9 => 9 | n => n, fun | n => n⟩
theorem Try.lays129 : Go.Proofs.Lays.n129 Try.prog Try.lays129_ren := {
  mixed := by kernel_rfl
  f129 := Try.func92.trans (congrArg some (by kernel_rfl))
  t3 := Try.underlying3
  a3 := Try.isAgg3
  z3 := Try.sizeOf3
  v3 := Try.zeroValue3
  t4 := Try.underlying4
  a4 := Try.isAgg4
  z4 := Try.sizeOf4
  v4 := Try.zeroValue4
  t5 := Try.underlying5
  a5 := Try.isAgg5
  z5 := Try.sizeOf5
  v5 := Try.zeroValue5
  t9 := Try.underlying9
  a9 := Try.isAgg9
  z9 := Try.sizeOf9
  v9 := Try.zeroValue9
  t46 := Try.underlying100
  a46 := Try.isAgg100
  z46 := Try.sizeOf100
  v46 := Try.zeroValue100
  t53 := Try.underlying92
  a53 := Try.isAgg92
  z53 := Try.sizeOf92
  v53 := Try.zeroValue92 }
theorem Try.bits_Len64 (x : Int) (w : World) (h0 : 0 ≤ x) (h1 : x ≤ 18446744073709551615) :
    Calls Try.prog 92 #[.int .u64 x] w fun e w' => e = .returned (.int .i64 (Lib.bitLen x.toNat)) ∧ w' = w := Any.bits_Len64 Try.lays129 x w h0 h1
def Try.lays264_ren : Go.Shelf.Ren := ⟨fun | 264 => 75 | n => n, fun | 53 => 92 | 46 => 100 | n => n, fun | n => n⟩
theorem Try.lays264 : Go.Proofs.Lays.n264 Try.prog Try.lays264_ren := {
  mixed := by kernel_rfl
  f264 := Try.func75.trans (congrArg some (by kernel_rfl))
  t46 := Try.underlying100
  a46 := Try.isAgg100
  z46 := Try.sizeOf100
  v46 := Try.zeroValue100
  t53 := Try.underlying92
  a53 := Try.isAgg92
  z53 := Try.sizeOf92
  v53 := Try.zeroValue92 }
open Go.RowKit Go.Lib in
theorem Try.bits_Mul64 (x y : Nat) (hx : x < 18446744073709551616) (hy : y < 18446744073709551616) (w : World) :
    Calls Try.prog 75 #[.int .u64 x, .int .u64 y] w fun e w' => e = .returned (.tuple #[.int .u64 ((x * y / 18446744073709551616 : Nat) : Int), .int .u64 ((x * y % 18446744073709551616 : Nat) : Int)]) ∧ w' = w := Any.bits_Mul64 Try.lays264 x y hx hy w
end Go.Proofs

/-
  math/bits' Add64 and Sub64 at this translation, out of the library's laws.
-/
namespace Go.Proofs
open Go.Shelf
def Try.ren7 : Go.Shelf.Ren := ⟨fun | 25 => 113 | 26 => 114 | n => n, fun | 22 => 92 | n => n, fun | n => n⟩
theorem Try.lays25 : Lays7.n25 Try.prog Try.ren7 := {
  mixed := by kernel_rfl
  f25 := Try.func113.trans (congrArg some (by kernel_rfl))
  t22 := Try.underlying92
  a22 := Try.isAgg92
  z22 := Try.sizeOf92
  v22 := Try.zeroValue92
  i22 := by kernel_rfl }
theorem Try.lays26 : Lays7.n26 Try.prog Try.ren7 := {
  mixed := by kernel_rfl
  f26 := Try.func114.trans (congrArg some (by kernel_rfl))
  t22 := Try.underlying92
  a22 := Try.isAgg92
  z22 := Try.sizeOf92
  v22 := Try.zeroValue92
  i22 := by kernel_rfl }
end Go.Proofs
namespace Go.Proofs.Ytdfkkknkiioghaa
theorem run_add64 (x y c : Int) (hx : 0 ≤ x) (hy : 0 ≤ y) (hc : 0 ≤ c) (hc1 : c ≤ 1) (w : World) :
    (callFunc 113 #[.int .u64 x, .int .u64 y, .int .u64 c]).run Try.prog w = .ok (.value (.tuple #[.int .u64 ((x + y + c) % 18446744073709551616), .int .u64 ((x + y + c) / 18446744073709551616)])) w := by
  obtain ⟨a, rfl⟩ := Int.eq_ofNat_of_zero_le hx
  obtain ⟨b, rfl⟩ := Int.eq_ofNat_of_zero_le hy
  obtain ⟨d, rfl⟩ := Int.eq_ofNat_of_zero_le hc
  have h := Any7.bits_Add64 Try.lays25 a b d (by omega) w
  rw [Int.natCast_emod, Int.natCast_ediv] at h
  exact h
theorem run_sub64 (x y b : Int) (hx : 0 ≤ x) (hx2 : x < 18446744073709551616) (hy : 0 ≤ y) (hy2 : y < 18446744073709551616) (hc : 0 ≤ b) (hc1 : b ≤ 1) (w : World) :
    (callFunc 114 #[.int .u64 x, .int .u64 y, .int .u64 b]).run Try.prog w = .ok (.value (.tuple #[.int .u64 ((x + 18446744073709551616 - y - b) % 18446744073709551616), .int .u64 (if x < y + b then 1 else 0)])) w := by
  obtain ⟨a, rfl⟩ := Int.eq_ofNat_of_zero_le hx
  obtain ⟨c, rfl⟩ := Int.eq_ofNat_of_zero_le hy
  obtain ⟨d, rfl⟩ := Int.eq_ofNat_of_zero_le hc
  have h := Any7.bits_Sub64 Try.lays26 a c d (by omega) w
  have e1 : (((a + 18446744073709551616 - c - d) % 18446744073709551616 : Nat) : Int) = ((a : Int) + 18446744073709551616 - c - d) % 18446744073709551616 := by omega
  have e2 : ((if a < c + d then 1 else 0 : Nat) : Int) = if (a : Int) < c + d then 1 else 0 := by split <;> split <;> omega
  rw [e1, e2] at h
  exact h
end Go.Proofs.Ytdfkkknkiioghaa

