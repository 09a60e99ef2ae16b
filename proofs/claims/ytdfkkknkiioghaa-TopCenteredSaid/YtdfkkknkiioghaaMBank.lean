/-
  The walks of Bank: the search for the least bank angle.
-/
import Derived.Test.YtdfkkknkiioghaaMTurnA
import Derived.Test.YtdfkkknkiioghaaMTrig
import Derived.Test.YtdfkkknkiioghaaMGeo
import Derived.Test.YtdfkkknkiioghaaMLawsT
import Derived.Laws.EntriesVeiled
namespace Go.Proofs.Ytdfkkknkiioghaa
open Go.RowKit
set_option linter.unusedVariables false
set_option linter.unusedSimpArgs false
set_option maxHeartbeats 1000000 in
theorem bankclo_any (b v r : Int) (bv br : Nat) (w : World)
    (hv : w.cell? ⟨bv, 0, none⟩ = some (.int .i64 v)) (hr : w.cell? ⟨br, 0, none⟩ = some (.int .i64 r)) :
    Calls Try.prog 59 #[.int .i64 b, .pointer (some ⟨bv, 0, none⟩), .pointer (some ⟨br, 0, none⟩)] w fun e w' => e = .returned (.bool (fitsF v r b)) ∧ Below w.heap.size w w' := by
  have RA := fun W => rad_any v b W
  have h := hide (show fitsF v r b = decide ((radF v b).2 = 0 ∧ (radF v b).1 ≤ r) from rfl)
  generalize fitsF v r b = q at *
  generalize (radF v b).1 = X at *
  generalize (radF v b).2 = E at *
  go_enter Try.func59, Try.ntmps59
  go_wp2_with fail
  refine (RA _).mono ?_
  rintro e w1 ⟨rfl, hb1⟩
  have g := cell_below hb1 (b := br) (o := 0) (v := .int .i64 r) (by repeat (first | (with_reducible assumption) | (with_reducible refine cell_drew ?_) | (with_reducible refine cell_drewN ?_ _) | (with_reducible refine cell_below (by assumption) ?_) | ((with_reducible refine cell_new ?_ ?_); (· (simp; done)); (· rfl)) | (with_reducible refine cell_alloc ?_ _) | ((with_reducible refine cell_set ?_ ?_ _); (· first | (simp; done) | (simp; omega) | omega))))
  go_wp2_with fail
  all_goals
    go_ret
    exact ⟨ret_bool (by rw [h.out, Bool.eq_iff_iff]; simp; try omega), by (repeat (with_reducible (first | assumption | exact Below.refl _ _ | refine Below.drew ?_ | refine below_drewN ?_ _ | refine below_set ?_ (by simp; try omega) _ | refine below_alloc ?_ (Nat.le_refl _) _ | refine below_sub (by assumption) ?_)))⟩
set_option maxHeartbeats 1000000 in
theorem bankclo2_any (h v r : Int) (c0 : 0 ≤ h) (c1 : h < 2999) (b bv br : Nat) (w : World)
    (hb : w.cell? ⟨b, 0, none⟩ = some (.func (.func 59) #[] #[.pointer (some ⟨bv, 0, none⟩), .pointer (some ⟨br, 0, none⟩)]))
    (hv : w.cell? ⟨bv, 0, none⟩ = some (.int .i64 v)) (hr : w.cell? ⟨br, 0, none⟩ = some (.int .i64 r)) :
    Calls Try.prog 62 #[.int .i64 h, .pointer (some ⟨b, 0, none⟩)] w fun e w' => e = .returned (.bool (fitsF v r (h + 1))) ∧ Below w.heap.size w w' := by
  have BC := fun W a b => bankclo_any (h + 1) v r bv br W a b
  generalize fitsF v r (h + 1) = q at *
  go_enter Try.func62, Try.ntmps62
  go_wp2_with (go_at_call 59; refine (BC _ (by repeat (first | (with_reducible assumption) | (with_reducible refine cell_drew ?_) | (with_reducible refine cell_drewN ?_ _) | (with_reducible refine cell_below (by assumption) ?_) | ((with_reducible refine cell_new ?_ ?_); (· (simp; done)); (· rfl)) | (with_reducible refine cell_alloc ?_ _) | ((with_reducible refine cell_set ?_ ?_ _); (· first | (simp; done) | (simp; omega) | omega)))) (by repeat (first | (with_reducible assumption) | (with_reducible refine cell_drew ?_) | (with_reducible refine cell_drewN ?_ _) | (with_reducible refine cell_below (by assumption) ?_) | ((with_reducible refine cell_new ?_ ?_); (· (simp; done)); (· rfl)) | (with_reducible refine cell_alloc ?_ _) | ((with_reducible refine cell_set ?_ ?_ _); (· first | (simp; done) | (simp; omega) | omega))))).mono ?_; rintro e w' ⟨rfl, hb1⟩)
  go_ret
  exact ⟨rfl, by (repeat (with_reducible (first | assumption | exact Below.refl _ _ | refine Below.drew ?_ | refine below_drewN ?_ _ | refine below_set ?_ (by simp; try omega) _ | refine below_alloc ?_ (Nat.le_refl _) _ | refine below_sub (by assumption) ?_)))⟩
set_option maxHeartbeats 1000000 in
theorem search_bank (n : Int) (hn : 0 ≤ n) (hn2 : n ≤ 1099511627776) (b : Nat) (p : Int → Bool) (W : World)
    (hf : ∀ h wr, 0 ≤ h → h < n → Below W.heap.size W wr → Calls Try.prog 62 #[.int .i64 h, .pointer (some ⟨b, 0, none⟩)] wr fun e w' => e = .returned (.bool (p h)) ∧ Below wr.heap.size wr w') :
    Calls Try.prog 61 #[.int .i64 n, .func (.func 62) #[] #[.pointer (some ⟨b, 0, none⟩)]] W fun e w' =>
      ∃ r, e = .returned (.int .i64 r) ∧ 0 ≤ r ∧ r ≤ n ∧ (r = n ∨ p r = true) ∧ (r = 0 ∨ p (r - 1) = false) ∧ Below W.heap.size W w' := by
  go_enter Try.func61, Try.ntmps61
  go_wp2
  go_loopw [5, 6] (fun a c wr => ∃ (i j : Int), a = .int .i64 i ∧ c = .int .i64 j ∧ 0 ≤ i ∧ i ≤ j ∧ j ≤ n ∧ Hid (j = n ∨ p j = true) ∧ Hid (i = 0 ∨ p (i - 1) = false) ∧ Below W.heap.size W wr) (fun a c _ => (intOf c - intOf a).toNat)
  case atStart => exact ⟨0, n, rfl, rfl, by omega, hn, by omega, .inl rfl, .inl rfl, by (repeat (with_reducible (first | assumption | exact Below.refl _ _ | refine Below.drew ?_ | refine below_drewN ?_ _ | refine below_set ?_ (by simp; try omega) _ | refine below_alloc ?_ (Nat.le_refl _) _ | refine below_sub (by assumption) ?_)))⟩
  case round =>
    obtain ⟨i, j, rfl, rfl, i0, i1, j1, J, I, K⟩ := hrel
    by_cases t : i < j
    · obtain ⟨h1, h2⟩ := half_sum i j i0 t (by omega)
      have eh : wrap64 (IntKind.u64.wrap (i + j) / 2) = (i + j) / 2 := by rw [IntKind.wrap_u64]; unfold wrap64; omega
      have C := fun wr k => hf ((i + j) / 2) wr (by omega) (by omega) k
      cases hp : p ((i + j) / 2) with
      | true =>
        rw [hp] at C
        have HP := hide hp
        clear hp
        go_wp2_with (go_at_call 62; refine (C _ (by (repeat (with_reducible (first | assumption | exact Below.refl _ _ | refine Below.drew ?_ | refine below_drewN ?_ _ | refine below_set ?_ (by simp; try omega) _ | refine below_alloc ?_ (Nat.le_refl _) _ | refine below_sub (by assumption) ?_))))).mono ?_; rintro e w' ⟨rfl, hb1⟩)
        go_roundw
        case rel => exact ⟨i, (i + j) / 2, rfl, rfl, i0, h1, by omega, .inr HP.out, I, by (repeat (with_reducible (first | assumption | exact Below.refl _ _ | refine Below.drew ?_ | refine below_drewN ?_ _ | refine below_set ?_ (by simp; try omega) _ | refine below_alloc ?_ (Nat.le_refl _) _ | refine below_sub (by assumption) ?_)))⟩
        case measure => simp [intOf]; omega
      | false =>
        rw [hp] at C
        have HP := hide hp
        clear hp
        go_wp2_with (go_at_call 62; refine (C _ (by (repeat (with_reducible (first | assumption | exact Below.refl _ _ | refine Below.drew ?_ | refine below_drewN ?_ _ | refine below_set ?_ (by simp; try omega) _ | refine below_alloc ?_ (Nat.le_refl _) _ | refine below_sub (by assumption) ?_))))).mono ?_; rintro e w' ⟨rfl, hb1⟩)
        go_roundw
        case rel => exact ⟨(i + j) / 2 + 1, j, rfl, rfl, by omega, by omega, j1, J, .inr (by rw [show (i + j) / 2 + 1 - 1 = (i + j) / 2 by omega]; exact HP.out), by (repeat (with_reducible (first | assumption | exact Below.refl _ _ | refine Below.drew ?_ | refine below_drewN ?_ _ | refine below_set ?_ (by simp; try omega) _ | refine below_alloc ?_ (Nat.le_refl _) _ | refine below_sub (by assumption) ?_)))⟩
        case measure => simp [intOf]; omega
    · obtain rfl : i = j := by omega
      go_wp2
      go_ret
      exact ⟨i, rfl, i0, j1, J.out, I.out, by (repeat (with_reducible (first | assumption | exact Below.refl _ _ | refine Below.drew ?_ | refine below_drewN ?_ _ | refine below_set ?_ (by simp; try omega) _ | refine below_alloc ?_ (Nat.le_refl _) _ | refine below_sub (by assumption) ?_)))⟩
theorem fits_least {v r i : Int} (h : (radF v i).2 = 2 ∨ r < (radF v i).1) : (i + 1 : Int) = 1 ∨ fitsF v r (i + 1 - 1) = false := by
  right
  rw [show i + 1 - 1 = i from by omega]
  refine decide_eq_false ?_
  rintro ⟨h1, h2⟩
  rcases h with h | h <;> omega
/-- what the bank angle for a radius is -/
def BankP (v r : Int) (R : Int × Int) : Prop :=
  (R = (0, 2) ∧ ¬ (1 ≤ v ∧ v ≤ 1000 ∧ 1 ≤ r ∧ r ≤ 8000000)) ∨
  ((1 ≤ v ∧ v ≤ 1000 ∧ 1 ≤ r ∧ r ≤ 8000000) ∧ fitsF v r 3000 = false ∧ R = (0, 10)) ∨
  ((1 ≤ v ∧ v ≤ 1000 ∧ 1 ≤ r ∧ r ≤ 8000000) ∧ R.2 = 0 ∧ (1 ≤ R.1 ∧ R.1 ≤ 3000) ∧ fitsF v r R.1 = true ∧ (R.1 = 1 ∨ fitsF v r (R.1 - 1) = false))
set_option maxRecDepth 100000 in
set_option maxHeartbeats 2000000 in
theorem bank_any (v r : Int) (hv : I64 v) (hr : I64 r) (w : World) :
    Calls Try.prog 33 #[.int .i64 v, .int .i64 r] w fun e w' => ∃ R : Int × Int, e = .returned (.tuple #[.int .i64 R.1, .int .i64 R.2]) ∧ BankP v r R ∧ Below w.heap.size w w' := by
  by_cases hin : 1 ≤ v ∧ v ≤ 1000 ∧ 1 ≤ r ∧ r ≤ 8000000
  · obtain ⟨i1, i2, i3, i4⟩ := hin
    have BC := fun W a b => bankclo_any 3000 v r w.heap.size (w.heap.size + 1) W a b
    have BS := fun W h => search_bank 2999 (by omega) (by omega) (w.heap.size + 1 + 1) (fun h => fitsF v r (h + 1)) W h
    have B2 := fun h h0 h1 W a b c => bankclo2_any h v r h0 h1 (w.heap.size + 1 + 1) w.heap.size (w.heap.size + 1) W a b c
    rcases hF : fitsF v r 3000 with _ | _
    · rw [hF] at BC
      have HF := hide hF
      clear hF BS B2
      go_enter Try.func33, Try.ntmps33
      go_wp2_with (go_at_call 59; refine (BC _ ?_ ?_).mono ?_; (repeat (first | (with_reducible assumption) | (with_reducible refine cell_drew ?_) | (with_reducible refine cell_drewN ?_ _) | (with_reducible refine cell_below (by assumption) ?_) | ((with_reducible refine cell_new ?_ ?_); (· (simp; done)); (· rfl)) | (with_reducible refine cell_alloc ?_ _) | ((with_reducible refine cell_set ?_ ?_ _); (· first | (simp; done) | (simp; omega) | omega)))); rintro e w' ⟨rfl, hb1⟩)
      go_ret2
      exact ⟨(0, 10), rfl, .inr (.inl ⟨⟨i1, i2, i3, i4⟩, HF.out, rfl⟩), by (repeat (with_reducible (first | assumption | exact Below.refl _ _ | refine Below.drew ?_ | refine below_drewN ?_ _ | refine below_set ?_ (by simp; try omega) _ | refine below_alloc ?_ (Nat.le_refl _) _ | refine below_sub (by assumption) ?_)))⟩
    · rw [hF] at BC
      have HF := hide hF
      clear hF
      go_enter Try.func33, Try.ntmps33
      go_wp2_with fail
      refine (BC _ ?_ ?_).mono ?_
      repeat (first | (with_reducible assumption) | (with_reducible refine cell_drew ?_) | (with_reducible refine cell_drewN ?_ _) | (with_reducible refine cell_below (by assumption) ?_) | ((with_reducible refine cell_new ?_ ?_); (· (simp; done)); (· rfl)) | (with_reducible refine cell_alloc ?_ _) | ((with_reducible refine cell_set ?_ ?_ _); (· first | (simp; done) | (simp; omega) | omega)))
      rintro e w1 ⟨rfl, hb1⟩
      have g0 := cell_below hb1 (b := w.heap.size) (o := 0) (v := .int .i64 v) (by repeat (first | (with_reducible assumption) | (with_reducible refine cell_drew ?_) | (with_reducible refine cell_drewN ?_ _) | (with_reducible refine cell_below (by assumption) ?_) | ((with_reducible refine cell_new ?_ ?_); (· (simp; done)); (· rfl)) | (with_reducible refine cell_alloc ?_ _) | ((with_reducible refine cell_set ?_ ?_ _); (· first | (simp; done) | (simp; omega) | omega))))
      have g1 := cell_below hb1 (b := w.heap.size + 1) (o := 0) (v := .int .i64 r) (by repeat (first | (with_reducible assumption) | (with_reducible refine cell_drew ?_) | (with_reducible refine cell_drewN ?_ _) | (with_reducible refine cell_below (by assumption) ?_) | ((with_reducible refine cell_new ?_ ?_); (· (simp; done)); (· rfl)) | (with_reducible refine cell_alloc ?_ _) | ((with_reducible refine cell_set ?_ ?_ _); (· first | (simp; done) | (simp; omega) | omega))))
      have g2 := cell_below hb1 (b := w.heap.size + 1 + 1) (o := 0) (v := .func (.func 59) #[] #[.pointer (some ⟨w.heap.size, 0, none⟩), .pointer (some ⟨w.heap.size + 1, 0, none⟩)]) (by simp [go_sem])
      have bB := fun i => @bank_found v r i
      go_wp2_with (go_at_call 61; refine (BS _ (fun h wr h0 h1 hb => ?_)).mono ?_; (· (refine B2 h h0 h1 wr ?_ ?_ ?_ <;> (repeat (first | (with_reducible assumption) | (with_reducible refine cell_drew ?_) | (with_reducible refine cell_drewN ?_ _) | (with_reducible refine cell_below (by assumption) ?_) | ((with_reducible refine cell_new ?_ ?_); (· (simp; done)); (· rfl)) | (with_reducible refine cell_alloc ?_ _) | ((with_reducible refine cell_set ?_ ?_ _); (· first | (simp; done) | (simp; omega) | omega)))))); rintro e w' ⟨i, rfl, j0, j1, j2, j3, hb2⟩)
      have bb := bB i j0 j1 HF.out j2 j3
      go_ret2
      exact ⟨(i + 1, 0), rfl, .inr (.inr ⟨⟨i1, i2, i3, i4⟩, rfl, ⟨by show 1 ≤ i + 1; omega, by show i + 1 ≤ 3000; omega⟩, decide_eq_true bb.1, fits_least bb.2⟩), by (repeat (with_reducible (first | assumption | exact Below.refl _ _ | refine Below.drew ?_ | refine below_drewN ?_ _ | refine below_set ?_ (by simp; try omega) _ | refine below_alloc ?_ (Nat.le_refl _) _ | refine below_sub (by assumption) ?_)))⟩
  · have HI := hide hin
    have hin' : v < 1 ∨ (1 ≤ v ∧ 1000 < v) ∨ (1 ≤ v ∧ v ≤ 1000 ∧ r < 1) ∨ (1 ≤ v ∧ v ≤ 1000 ∧ 1 ≤ r ∧ 8000000 < r) := by omega
    clear hin
    rcases hin' with c1 | ⟨c1, c2⟩ | ⟨c1, c2, c3⟩ | ⟨c1, c2, c3, c4⟩
    all_goals
      go_enter Try.func33, Try.ntmps33
      go_wp2_with fail
      go_ret2
      exact ⟨(0, 2), rfl, .inl ⟨rfl, HI.out⟩, by (repeat (with_reducible (first | assumption | exact Below.refl _ _ | refine Below.drew ?_ | refine below_drewN ?_ _ | refine below_set ?_ (by simp; try omega) _ | refine below_alloc ?_ (Nat.le_refl _) _ | refine below_sub (by assumption) ?_)))⟩
end Go.Proofs.Ytdfkkknkiioghaa

