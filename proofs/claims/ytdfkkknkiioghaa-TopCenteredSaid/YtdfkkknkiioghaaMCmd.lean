/-
  The walks of the lateral command, its limit and the examples of chapter 50.
-/
import Derived.Test.YtdfkkknkiioghaaMScale
import Derived.Test.YtdfkkknkiioghaaMPlain
namespace Go.Proofs.Ytdfkkknkiioghaa
open Go.RowKit
set_option linter.unusedVariables false
set_option linter.unusedSimpArgs false
theorem clamp_bd (x lo hi : Int) (h : lo ≤ hi) : lo ≤ clamp x lo hi ∧ clamp x lo hi ≤ hi := by unfold clamp; omega
def command (o g n m : Int) : Int :=
  clamp (clamp n (-3000) 3000 + Int.tdiv (-(clamp o (-12000) 12000) * 1350 - clamp g (-64800000) 64800000) 7200) (-(clamp m 0 3000)) (clamp m 0 3000)
def limit3 (last want rate : Int) : Int := clamp want (sat (last - max rate 0)) (sat (last + max rate 0))

theorem tdiv_bd50 (a b : Int) : -(a.natAbs : Int) ≤ Int.tdiv a b ∧ Int.tdiv a b ≤ a.natAbs := by
  have := Int.natAbs_tdiv_le_natAbs a b
  omega
set_option maxHeartbeats 400000 in
theorem command_any (o g n m : Int) (w : World) :
    Calls Try.prog 13 #[.int .i64 o, .int .i64 g, .int .i64 n, .int .i64 m] w fun e w' => e = .returned (.int .i64 (command o g n m)) ∧ w = w' := by
  have b1 := clamp_bd o (-12000) 12000 (by omega)
  have b2 := clamp_bd g (-64800000) 64800000 (by omega)
  have b3 := clamp_bd n (-3000) 3000 (by omega)
  have b4 := clamp_bd m 0 3000 (by omega)
  have b5 := tdiv_bd50 (-(clamp o (-12000) 12000) * 1350 - clamp g (-64800000) 64800000) 7200
  go_enter Try.func13, Try.ntmps13
  go_wp2_with (go_at_call 35; refine (clamp_any _ _ _ _).mono ?_; rintro e w' ⟨rfl, rfl⟩)
  go_ret
  exact ⟨ret_int (by unfold command; rfl), rfl⟩
set_option maxHeartbeats 400000 in
theorem limit_any (l t r : Int) (hl : I64 l) (hr : I64 r) (w : World) :
    Calls Try.prog 46 #[.int .i64 l, .int .i64 t, .int .i64 r] w fun e w' => e = .returned (.int .i64 (limit3 l t r)) ∧ w = w' := by
  have hm : I64 (max r 0) := by unfold I64 at *; omega
  go_enter Try.func46, Try.ntmps46
  go_wp2_with (first | (go_at_call 70; refine (sub_any _ _ hl hm _).mono ?_; rintro e w' ⟨rfl, rfl⟩) | (go_at_call 71; refine (add_any _ _ hl hm _).mono ?_; rintro e w' ⟨rfl, rfl⟩) | (go_at_call 35; refine (clamp_any _ _ _ _).mono ?_; rintro e w' ⟨rfl, rfl⟩))
  go_ret
  exact ⟨ret_int rfl, rfl⟩
set_option maxHeartbeats 400000 in
theorem awake50_any (w : World) :
    Calls Try.prog 21 #[] w fun e w' => e = .returned (.bool true) ∧ w = w' := by
  have c1 : command 6000 0 0 2500 = -1125 := by decide
  have c2 : command 0 3600000 0 2500 = -500 := by decide
  have c3 : command 0 0 1800 2500 = 1800 := by decide
  have c4 : command (-60000) 0 0 2500 = 2250 := by decide
  have c5 : limit3 0 1000 300 = 300 := by decide
  have h0 : I64 0 := by unfold I64; omega
  have h3 : I64 300 := by unfold I64; omega
  go_enter Try.func21, Try.ntmps21
  go_wp2_with (first | (go_at_call 13; refine (command_any _ _ _ _ _).mono ?_; rintro e w' ⟨rfl, rfl⟩) | (go_at_call 46; refine (limit_any _ _ _ h0 h3 _).mono ?_; rintro e w' ⟨rfl, rfl⟩))
  go_ret
  exact ⟨rfl, rfl⟩
end Go.Proofs.Ytdfkkknkiioghaa

