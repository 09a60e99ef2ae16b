/-
  What the deviation of an element is, as plain functions; no program.
-/
namespace Go.Proofs.YtbhpklpkcgcmfaaGreatDoor
set_option linter.unusedVariables false
section
variable {c : Bool} {ax ay bx b_y cx cy r f s L px py track speed o al e X Y C E : Int} {R : Int × Int}
end
end Go.Proofs.YtbhpklpkcgcmfaaGreatDoor
/-
  Paths and the progress along them, as plain functions; no program.
-/
namespace Go.Proofs.YtbhpklpkcgcmfaaGreatDoor
set_option linter.unusedVariables false
structure El where
 c : Bool
 ax : Int
 ay : Int
 bx : Int
 b_y : Int
 cx : Int
 cy : Int
 r : Int
 f : Int
 s : Int
 L : Int
 n : Int
 g : Bool
end Go.Proofs.YtbhpklpkcgcmfaaGreatDoor
/-
  What steps along a path do, and what is left of it: plain laws; no program.
-/
namespace Go.Proofs.YtbhpklpkcgcmfaaGreatDoor
set_option linter.unusedVariables false
set_option linter.unusedSimpArgs false
def sumL : List El → Int
 | [] => 0
 | x :: l => x.L + sumL l
theorem sumL_cons (x : El) (l : List El) : sumL (x :: l) = x.L + sumL l := rfl
end Go.Proofs.YtbhpklpkcgcmfaaGreatDoor
/-
  The point at a distance along a path lies on it; what beside it is how far off. No program.
-/
namespace Go.Proofs.YtbhpklpkcgcmfaaGreatDoor
set_option linter.unusedVariables false
set_option linter.unusedSimpArgs false
end Go.Proofs.YtbhpklpkcgcmfaaGreatDoor
