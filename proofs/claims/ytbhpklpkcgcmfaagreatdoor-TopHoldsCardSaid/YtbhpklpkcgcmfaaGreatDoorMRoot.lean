/-
  The walks of the reference of layer 1: its rounded quotients and its square root.
-/
import Derived.Test.YtbhpklpkcgcmfaaGreatDoorMPlain
import Derived.WalkSpells
import Derived.WalkLawsBesides
import Derived.BigQuiet
import Derived.Lib.ItoaNum
import Derived.Shelf.Small.Bits
import Derived.Shelf.Bits.Mul64
import Derived.Shelf.Spec.BitsCarry
import Derived.ProofKit
import Derived.OpenShut
import Derived.Test.YtbhpklpkcgcmfaaGreatDoorRows
set_option maxRecDepth 100000
set_option maxHeartbeats 16000000
namespace Go.Proofs.YtbhpklpkcgcmfaaGreatDoor
open Go.RowKit
set_option linter.unusedVariables false
end Go.Proofs.YtbhpklpkcgcmfaaGreatDoor
/-
  The walk of the reference's square root.
-/
namespace Go.Proofs.YtbhpklpkcgcmfaaGreatDoor
open Go.RowKit
set_option linter.unusedVariables false
theorem root_end {n r : Int} (hn : 0 ≤ n) (hr : 0 ≤ r) (h1 : r * r ≤ n) (h2 : n < (r + 1) * (r + 1)) : r = isq n.toNat := by
 have e := isq_eq (n := n.toNat) (r := r.toNat) (by
  have : ((r.toNat * r.toNat : Nat) : Int) ≤ (n.toNat : Int) := by
   rw [Int.natCast_mul, Int.toNat_of_nonneg hr, Int.toNat_of_nonneg hn]; exact h1
  omega) (by
  have : (n.toNat : Int) < (((r.toNat + 1) * (r.toNat + 1) : Nat) : Int) := by
   rw [Int.natCast_mul, Int.natCast_add, Int.toNat_of_nonneg hr, Int.toNat_of_nonneg hn]; exact h2
  omega)
 rw [e, Int.toNat_of_nonneg hr]
end Go.Proofs.YtbhpklpkcgcmfaaGreatDoor
