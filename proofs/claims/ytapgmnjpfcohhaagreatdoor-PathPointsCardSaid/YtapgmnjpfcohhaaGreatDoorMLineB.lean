/-
  The walks of Meet, of the program and of the reference.
-/
import Derived.Test.YtapgmnjpfcohhaaGreatDoorMGeo
import Derived.Test.YtapgmnjpfcohhaaGreatDoorMPlain
import Derived.Test.YtapgmnjpfcohhaaGreatDoorMFrame
import Derived.Deep.DeepCutAuto
import Derived.Below
import Derived.Deep.RegionHeld3
import Derived.Test.YtapgmnjpfcohhaaGreatDoorProg
import Derived.WalkSpells
import Derived.WalkLawsBesides
import Derived.Deep.QuietTactic
import Derived.BigQuiet
import Derived.Lib.ItoaNum
import Derived.Shelf.Small.Bits
import Derived.Shelf.Strconv.Itoa0
import Derived.Shelf.Bits.Mul64
import Derived.Shelf.Spec.BitsCarry
import Derived.WalkKit
import Derived.ProofKit
import Derived.OpenShut
import Derived.ChangeSame
import Derived.Test.YtapgmnjpfcohhaaGreatDoorRows
namespace Go.Proofs.YtapgmnjpfcohhaaGreatDoor
open Go.RowKit
set_option linter.unusedVariables false
set_option linter.unusedSimpArgs false
end Go.Proofs.YtapgmnjpfcohhaaGreatDoor

/-
  The walk of the reference's Meet.
-/
namespace Go.Proofs.YtapgmnjpfcohhaaGreatDoor
open Go.RowKit
set_option linter.unusedVariables false
set_option linter.unusedSimpArgs false
theorem rpvalid_d (x y : Int) (v : Bool) (h : vldB x y = v) (w : World) : Calls Tryz.prog 45 #[.agg #[.int .i64 x, .int .i64 y]] w fun e w' => e = .returned (.bool v) ∧ Below w.heap.size w w' := by
  rw [← h]; exact rpvalid_b x y w
end Go.Proofs.YtapgmnjpfcohhaaGreatDoor
/-
  The walks of at, of the program and of the reference.
-/
namespace Go.Proofs.YtapgmnjpfcohhaaGreatDoor
open Go.RowKit
set_option linter.unusedVariables false
set_option linter.unusedSimpArgs false
end Go.Proofs.YtapgmnjpfcohhaaGreatDoor

/-
  The walks of Foot and Meet, of the program and of the reference.
-/
namespace Go.Proofs.YtapgmnjpfcohhaaGreatDoor
open Go.RowKit
set_option linter.unusedVariables false
set_option linter.unusedSimpArgs false
theorem dot_in {a b c d : Int} (h1 : -4000000 ≤ a) (h2 : a ≤ 4000000) (h3 : -4000000 ≤ b) (h4 : b ≤ 4000000) (h5 : -4000000 ≤ c) (h6 : c ≤ 4000000) (h7 : -4000000 ≤ d) (h8 : d ≤ 4000000) : I64 (a * c + b * d) ∧ I64 (a * d - b * c) := by
  have p1 := prod_bd h1 h2 h5 h6
  have p2 := prod_bd h3 h4 h7 h8
  have p3 := prod_bd h1 h2 h7 h8
  have p4 := prod_bd h3 h4 h5 h6
  unfold I64
  omega
end Go.Proofs.YtapgmnjpfcohhaaGreatDoor
