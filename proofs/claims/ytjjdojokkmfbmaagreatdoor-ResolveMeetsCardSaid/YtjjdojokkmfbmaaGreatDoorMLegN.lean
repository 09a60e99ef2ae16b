/-
  checkRef, checkNumber (program); ref, number (reference): for all arguments.
-/
import Derived.Test.YtjjdojokkmfbmaaGreatDoorMFixed
import Derived.Test.YtjjdojokkmfbmaaGreatDoorMResP
import Derived.Test.YtjjdojokkmfbmaaGreatDoorMStrP
import Derived.Lib.Bytealg
import Derived.Lib.Strings
import Derived.Deep.Draws
import Derived.Laws.Strings3
import Derived.Below
import Derived.Deep.RegionHeld3
import Derived.Test.YtjjdojokkmfbmaaGreatDoorProg
import Derived.WalkSpells
import Derived.WalkLawsBesides
import Derived.Deep.QuietTactic
import Derived.BigQuiet
import Derived.Lib.ItoaNum
import Derived.Shelf.Small.Bits
import Derived.Shelf.Strconv.Itoa0
import Derived.Shelf.Bits.Mul64
import Derived.Shelf.Spec.BitsCarry
import Derived.WalkKit
import Derived.ProofKit
import Derived.OpenShut
import Derived.ChangeSame
import Derived.Test.YtjjdojokkmfbmaaGreatDoorRows
namespace Go.Proofs.YtjjdojokkmfbmaaGreatDoor
open Go.RowKit
set_option linter.unusedVariables false
set_option linter.unusedSimpArgs false
def QuietR (v : Value) (w : World) (e : Ending) (w' : World) : Prop := e = .returned v ∧ ∃ n, w' = w.drewN n
theorem str_nil {s : ByteArray} (h : s.data.toList = []) : s = ⟨#[]⟩ := by
  cases s with
  | mk d => simp at h; rw [h]
theorem refE_unused {s : ByteArray} (h : s ≠ ⟨#[]⟩) : refE s false = 1 := by
  unfold refE
  rw [if_neg (by simp), if_neg (fun e => h (str_nil e))]
set_option maxRecDepth 100000 in
set_option maxHeartbeats 8000000 in
theorem cref_any (s : ByteArray) (u : Bool) (hs : s.size ≤ maxLen) (w : World) :
    Calls Tryz.prog 58 #[.string s, .bool u] w (QuietR (.int .i64 (refE s u)) w) := by
  rcases u with _ | _
  · by_cases h : s = ⟨#[]⟩
    · subst h
      have HR : Hid (refE ⟨#[]⟩ false = 0) := hide rfl
      go_enter Tryz.func58, Tryz.ntmps58
      go_wp2_with fail
      all_goals
        go_ret
        exact ⟨ret_int HR.out.symm, 0, rfl⟩
    · have HR := hide (refE_unused h)
      have hl : s.toList = [] ↔ False := by
        rw [Lib.toList_data]
        exact ⟨fun e => h (str_nil e), False.elim⟩
      have hl2 : (s.toList == []) = false := by
        rw [beq_eq_false_iff_ne]; exact fun e => hl.1 e
      have hl3 : s.toList.isEmpty = false := by
        cases hq : s.toList with
        | nil => exact (hl.1 hq).elim
        | cons a b => rfl
      clear h
      go_enter Tryz.func58, Tryz.ntmps58
      go_wp2_with fail
      all_goals first
        | (exfalso; simp_all; done)
        | (go_ret
           exact ⟨ret_int HR.out.symm, 0, rfl⟩)
  · rcases hr : refL s.data.toList with _ | _
    · have HR : Hid (refE s true = 5) := hide (by unfold refE; rw [hr]; rfl)
      have H0 := hide hr
      clear hr
      go_enter Tryz.func58, Tryz.ntmps58
      go_wp2_with fail
      refine (split_any s hs _).mono ?_
      rintro e w1 ⟨x, y, c, rfl, hc, n, rfl⟩
      have hc0 : (c != 0) = true := by
        rw [bne_iff_ne]
        intro e
        have := hc.1 e
        rw [H0.out] at this
        cases this
      clear hc
      go_wp2_with fail
      all_goals
        go_ret
        exact ⟨ret_int HR.out.symm, n, rfl⟩
    · have HR : Hid (refE s true = 0) := hide (by unfold refE; rw [hr]; rfl)
      have H0 := hide hr
      clear hr
      go_enter Tryz.func58, Tryz.ntmps58
      go_wp2_with fail
      refine (split_any s hs _).mono ?_
      rintro e w1 ⟨x, y, c, rfl, hc, n, rfl⟩
      obtain rfl : c = 0 := hc.2 H0.out
      clear hc
      go_wp2_with fail
      all_goals
        go_ret
        exact ⟨ret_int HR.out.symm, n, rfl⟩
set_option maxRecDepth 100000 in
set_option maxHeartbeats 8000000 in
theorem rref_any (s : ByteArray) (u : Bool) (hs : s.size ≤ maxLen) (w : World) :
    Calls Tryz.prog 74 #[.string s, .bool u] w (QuietR (.int .i64 (refE s u)) w) := by
  rcases u with _ | _
  · by_cases h : s = ⟨#[]⟩
    · subst h
      have HR : Hid (refE ⟨#[]⟩ false = 0) := hide rfl
      go_enter Tryz.func74, Tryz.ntmps74
      go_wp2_with fail
      all_goals
        go_ret
        exact ⟨ret_int HR.out.symm, 0, rfl⟩
    · have HR := hide (refE_unused h)
      have hl : s.toList = [] ↔ False := by
        rw [Lib.toList_data]
        exact ⟨fun e => h (str_nil e), False.elim⟩
      have hl2 : (s.toList == []) = false := by
        rw [beq_eq_false_iff_ne]; exact fun e => hl.1 e
      have hl3 : s.toList.isEmpty = false := by
        cases hq : s.toList with
        | nil => exact (hl.1 hq).elim
        | cons a b => rfl
      clear h
      go_enter Tryz.func74, Tryz.ntmps74
      go_wp2_with fail
      all_goals first
        | (exfalso; simp_all; done)
        | (go_ret
           exact ⟨ret_int HR.out.symm, 0, rfl⟩)
  · rcases hr : refL s.data.toList with _ | _
    · have HR : Hid (refE s true = 5) := hide (by unfold refE; rw [hr]; rfl)
      have H0 := hide hr
      clear hr
      go_enter Tryz.func74, Tryz.ntmps74
      go_wp2_with fail
      refine (rsplit_any s hs _).mono ?_
      rintro e w1 ⟨x, y, c, rfl, hc, n, rfl⟩
      have hc0 : (c != 0) = true := by
        rw [bne_iff_ne]
        intro e
        have := hc.1 e
        rw [H0.out] at this
        cases this
      clear hc
      go_wp2_with fail
      all_goals
        go_ret
        exact ⟨ret_int HR.out.symm, n, rfl⟩
    · have HR : Hid (refE s true = 0) := hide (by unfold refE; rw [hr]; rfl)
      have H0 := hide hr
      clear hr
      go_enter Tryz.func74, Tryz.ntmps74
      go_wp2_with fail
      refine (rsplit_any s hs _).mono ?_
      rintro e w1 ⟨x, y, c, rfl, hc, n, rfl⟩
      obtain rfl : c = 0 := hc.2 H0.out
      clear hc
      go_wp2_with fail
      all_goals
        go_ret
        exact ⟨ret_int HR.out.symm, n, rfl⟩
set_option maxRecDepth 100000 in
set_option maxHeartbeats 8000000 in
theorem cnum_any (n : Int) (u : Bool) (lo hi : Int) (w : World) :
    Calls Tryz.prog 59 #[.int .i64 n, .bool u, .int .i64 lo, .int .i64 hi] w fun e w' => e = .returned (.int .i64 (numE n u lo hi)) ∧ w = w' := by
  rcases u with _ | _
  · by_cases h0 : n = 0
    · subst h0
      have HR : Hid (numE 0 false lo hi = 0) := hide rfl
      go_enter Tryz.func59, Tryz.ntmps59
      go_wp2_with fail
      all_goals
        go_ret
        exact ⟨ret_int HR.out.symm, rfl⟩
    · have HR : Hid (numE n false lo hi = 1) := hide (by unfold numE; rw [if_neg (by simp), if_neg h0])
      have hne : (n != 0) = true := by simpa using h0
      have hne2 : (n == 0) = false := by simpa using h0
      clear h0
      go_enter Tryz.func59, Tryz.ntmps59
      go_wp2_with fail
      all_goals
        go_ret
        exact ⟨ret_int HR.out.symm, rfl⟩
  · have HR : Hid (numE n true lo hi = if n < lo ∨ n > hi then 2 else 0) := hide rfl
    go_enter Tryz.func59, Tryz.ntmps59
    go_wp2_with fail
    all_goals
      go_ret
      exact ⟨ret_int (by rw [HR.out]; first | rw [if_pos (by omega)] | rw [if_neg (by omega)]), rfl⟩
set_option maxRecDepth 100000 in
set_option maxHeartbeats 8000000 in
theorem rnum_any (n : Int) (u : Bool) (lo hi : Int) (w : World) :
    Calls Tryz.prog 76 #[.int .i64 n, .int .i64 lo, .int .i64 hi, .bool u] w fun e w' => e = .returned (.int .i64 (numE n u lo hi)) ∧ w = w' := by
  rcases u with _ | _
  · by_cases h0 : n = 0
    · subst h0
      have HR : Hid (numE 0 false lo hi = 0) := hide rfl
      go_enter Tryz.func76, Tryz.ntmps76
      go_wp2_with fail
      all_goals
        go_ret
        exact ⟨ret_int HR.out.symm, rfl⟩
    · have HR : Hid (numE n false lo hi = 1) := hide (by unfold numE; rw [if_neg (by simp), if_neg h0])
      have hne : (n != 0) = true := by simpa using h0
      have hne2 : (n == 0) = false := by simpa using h0
      clear h0
      go_enter Tryz.func76, Tryz.ntmps76
      go_wp2_with fail
      all_goals
        go_ret
        exact ⟨ret_int HR.out.symm, rfl⟩
  · have HR : Hid (numE n true lo hi = if n < lo ∨ n > hi then 2 else 0) := hide rfl
    go_enter Tryz.func76, Tryz.ntmps76
    go_wp2_with fail
    all_goals
      go_ret
      exact ⟨ret_int (by rw [HR.out]; first | rw [if_pos (by omega)] | rw [if_neg (by omega)]), rfl⟩
end Go.Proofs.YtjjdojokkmfbmaaGreatDoor
