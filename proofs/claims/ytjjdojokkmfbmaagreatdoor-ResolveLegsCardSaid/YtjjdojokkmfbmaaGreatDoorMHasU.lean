/-
  has and uses of the reference of chapter 16.
-/
import Derived.Test.YtjjdojokkmfbmaaGreatDoorMFixed
import Derived.Test.YtjjdojokkmfbmaaGreatDoorMResP
import Derived.Test.YtjjdojokkmfbmaaGreatDoorMStrP
import Derived.ProofKit
import Derived.Lib.Bytealg
import Derived.Lib.Strings
import Derived.Deep.Draws
import Derived.Laws.Strings3
import Derived.Below
import Derived.Deep.RegionHeld3
import Derived.Test.YtjjdojokkmfbmaaGreatDoorProg
import Derived.WalkSpells
import Derived.WalkLawsBesides
import Derived.Deep.QuietTactic
import Derived.BigQuiet
import Derived.Lib.ItoaNum
import Derived.Shelf.Small.Bits
import Derived.Shelf.Strconv.Itoa0
import Derived.Shelf.Bits.Mul64
import Derived.Shelf.Spec.BitsCarry
import Derived.WalkKit
import Derived.OpenShut
import Derived.ChangeSame
import Derived.Test.YtjjdojokkmfbmaaGreatDoorRows
namespace Go.Proofs.YtjjdojokkmfbmaaGreatDoor
open Go.RowKit
set_option linter.unusedVariables false
set_option linter.unusedSimpArgs false
/-- is a byte in a text? -/
def hasL (l : List UInt8) (c : Int) : Bool := !(l.all fun b => !decide ((b.toNat : Int) = c))
set_option maxRecDepth 100000 in
set_option maxHeartbeats 8000000 in
theorem has_any (s : ByteArray) (c : Int) (hs : s.size ≤ maxLen) (w : World) :
    Calls Tryz.prog 75 #[.string s, .int .u8 c] w fun e w' => e = .returned (.bool (hasL s.data.toList c)) ∧ w = w' := by
  unfold maxLen at hs
  go_enter Tryz.func75, Tryz.ntmps75
  go_wp2_with fail
  go_loop [5] (fun i => ∃ k : Nat, k ≤ s.size ∧ i = .int .i64 k ∧ Hid ((s.data.toList.take k).all (fun b => !decide ((b.toNat : Int) = c)) = true)) (fun i => s.size - (intOf i).toNat)
  case atStart => exact ⟨0, by omega, rfl, hide rfl⟩
  case round =>
    obtain ⟨k, hk, rfl, hA⟩ := hrel
    by_cases hlt : k < s.size
    · by_cases hc : (s[k].toNat : Int) = c
      · have hbad := hide (all_bad s (fun b => !decide ((b.toNat : Int) = c)) k hlt (by simp [hc]))
        have hq : ((s[k].toNat : Int) == c) = true := by simpa using hc
        clear hc
        go_wp2_with fail
        all_goals first
          | (exfalso; omega)
          | (go_ret
             exact ⟨ret_b (by unfold hasL; rw [hbad.out]; rfl), rfl⟩)
      · have hst := hide (all_step s (fun b => !decide ((b.toNat : Int) = c)) k hlt)
        have hy : Hid ((!decide ((s[k].toNat : Int) = c)) = true) := hide (by simp [hc])
        have hq : ((s[k].toNat : Int) == c) = false := by simpa using hc
        clear hc
        go_wp2_with fail
        all_goals first
          | (exfalso; omega)
          | (go_round
             case rel => exact ⟨k + 1, by omega, by go_num, hide (by rw [hst.out, hA.out]; exact hy.out)⟩
             case measure => simp [intOf]; omega)
    · have hend := hide (all_end s (fun b => !decide ((b.toNat : Int) = c)) k (by omega) hA.out)
      go_wp2_with fail
      go_ret
      exact ⟨ret_b (by unfold hasL; rw [hend.out]; rfl), rfl⟩
def usesLS : List ByteArray := [⟨#[]⟩, ⟨#[70]⟩, ⟨#[70, 111]⟩, ⟨#[70, 111, 75]⟩, ⟨#[70, 111]⟩, ⟨#[70, 67, 84, 82]⟩, ⟨#[70, 67, 84, 82]⟩, ⟨#[75, 97]⟩, ⟨#[67, 75, 68]⟩, ⟨#[75]⟩, ⟨#[67, 75, 72]⟩, ⟨#[70, 75, 97]⟩, ⟨#[70, 75, 68]⟩, ⟨#[70, 75]⟩, ⟨#[70, 84, 75, 68, 97]⟩, ⟨#[70, 84, 75, 68]⟩, ⟨#[70, 84, 75, 68]⟩, ⟨#[70, 84, 75, 68]⟩]
def usesS (t : Int) : ByteArray := if t < 1 ∨ t > 17 then ⟨#[]⟩ else usesLS.getD t.toNat ⟨#[]⟩
theorem usesS_no {t : Int} (h : t < 1 ∨ 17 < t) : usesS t = ⟨#[]⟩ := if_pos (by omega)
set_option maxRecDepth 100000 in
set_option maxHeartbeats 8000000 in
theorem uses_any (t : Int) (w : World) : Calls Tryz.prog 73 #[.int .u8 t] w fun e w' => e = .returned (.string (usesS t)) ∧ w = w' := by
  by_cases h : t < 1 ∨ 17 < t
  · have HR := hide (usesS_no h)
    have k1 : (t == 1) = false := by simp; omega
    have k2 : (t == 2) = false := by simp; omega
    have k3 : (t == 3) = false := by simp; omega
    have k4 : (t == 4) = false := by simp; omega
    have k5 : (t == 5) = false := by simp; omega
    have k6 : (t == 6) = false := by simp; omega
    have k7 : (t == 7) = false := by simp; omega
    have k8 : (t == 8) = false := by simp; omega
    have k9 : (t == 9) = false := by simp; omega
    have k10 : (t == 10) = false := by simp; omega
    have k11 : (t == 11) = false := by simp; omega
    have k12 : (t == 12) = false := by simp; omega
    have k13 : (t == 13) = false := by simp; omega
    have k14 : (t == 14) = false := by simp; omega
    have k15 : (t == 15) = false := by simp; omega
    have k16 : (t == 16) = false := by simp; omega
    have k17 : (t == 17) = false := by simp; omega
    clear h
    go_enter Tryz.func73, Tryz.ntmps73
    go_wp2_with fail
    all_goals
      go_ret
      exact ⟨(congrArg (fun z => Ending.returned (.string z)) HR.out).symm, rfl⟩
  · obtain rfl | rfl | rfl | rfl | rfl | rfl | rfl | rfl | rfl | rfl | rfl | rfl | rfl | rfl | rfl | rfl | rfl : t = 1 ∨ t = 2 ∨ t = 3 ∨ t = 4 ∨ t = 5 ∨ t = 6 ∨ t = 7 ∨ t = 8 ∨ t = 9 ∨ t = 10 ∨ t = 11 ∨ t = 12 ∨ t = 13 ∨ t = 14 ∨ t = 15 ∨ t = 16 ∨ t = 17 := by omega
    all_goals
      go_enter Tryz.func73, Tryz.ntmps73
      go_wp2_with fail
      all_goals
        go_ret
        exact ⟨rfl, rfl⟩
theorem uses_size : ∀ t : Nat, t ≤ 17 → (usesS t).size ≤ 5 ∧ (1 ≤ t → 0 < (usesS t).size) := by decide +kernel
theorem has_bit : ∀ t : Nat, t ≤ 17 → 1 ≤ t → hasL (usesS t).data.toList 70 = useB t 0 ∧ hasL (usesS t).data.toList 67 = useB t 1 ∧ hasL (usesS t).data.toList 84 = useB t 2 ∧ hasL (usesS t).data.toList 111 = useB t 3 ∧ hasL (usesS t).data.toList 75 = useB t 4 ∧ hasL (usesS t).data.toList 68 = useB t 5 ∧ hasL (usesS t).data.toList 82 = useB t 6 ∧ hasL (usesS t).data.toList 72 = useB t 7 ∧ hasL (usesS t).data.toList 97 = climbs t := by decide +kernel
end Go.Proofs.YtjjdojokkmfbmaaGreatDoor
