/-
  plan.pair, place, way, section, arrived; leg.Starts, Ends, From, Follows, Joins; for all arguments.
-/
import Derived.Test.YtjjdojokkmfbmaaGreatDoorMPlanP1
import Derived.Test.YtjjdojokkmfbmaaGreatDoorMLegK
import Derived.Test.YtjjdojokkmfbmaaGreatDoorMMem
import Derived.Test.YtjjdojokkmfbmaaGreatDoorMStrP
import Derived.Test.YtjjdojokkmfbmaaGreatDoorMLegN
namespace Go.Proofs.YtjjdojokkmfbmaaGreatDoor
open Go.RowKit
set_option linter.unusedVariables false
set_option linter.unusedSimpArgs false
theorem str_iff {s t : ByteArray} : s.toList = t.toList ↔ s = t := by
  rw [Lib.toList_data, Lib.toList_data]
  constructor
  · intro h
    cases s with
    | mk a =>
      cases t with
      | mk b =>
        simp at h
        rw [h]
  · intro h
    rw [h]
set_option maxRecDepth 100000 in
set_option maxHeartbeats 8000000 in
theorem pair_any (s : ByteArray) (b : UInt8) (m : Int) (hs : s.size ≤ maxLen) (w : World) :
    Calls Tryz.prog 103 #[.string s, .string ⟨#[b]⟩, .int .i64 m] w (QuietR (.bool (pairL s.data.toList b m)) w) := by
  go_enter Tryz.func103, Tryz.ntmps103
  go_wp2_with fail
  refine (cut_any s b hs _).mono ?_
  rintro e w1 ⟨x, y, f, rfl, hc, n, rfl⟩
  have hsz := cut_size hc
  have NX := fun W => rname_s x m (by omega) W
  have NY := fun W => rname_s y m (by omega) W
  rcases f with _ | _
  · have HP := hide (pair_one hc m)
    clear hc hsz
    rcases h1 : nameL x.data.toList m with _ | _
    all_goals
      rw [h1] at NX HP
      clear h1
      go_wp2_with (first
        | (go_at_call 147; with_reducible refine (NX _).mono ?_; rintro e w2 ⟨rfl, rfl⟩))
      go_ret
      exact ⟨ret_b HP.out.symm, n, rfl⟩
  · have HP := hide (pair_two hc m)
    clear hc hsz
    rcases h1 : nameL x.data.toList m with _ | _
    all_goals
      rw [h1] at NX HP
      clear h1
      rcases h2 : nameL y.data.toList m with _ | _
      all_goals
        rw [h2] at NY HP
        clear h2
        go_wp2_with (first
          | (go_at_call 147; with_reducible refine (NX _).mono ?_; rintro e w2 ⟨rfl, rfl⟩)
          | (go_at_call 147; with_reducible refine (NY _).mono ?_; rintro e w2 ⟨rfl, rfl⟩))
        go_ret
        exact ⟨ret_b HP.out.symm, n, rfl⟩
set_option maxRecDepth 100000 in
set_option maxHeartbeats 8000000 in
theorem place_any (s : ByteArray) (hs : s.size ≤ maxLen) (w : World) :
    Calls Tryz.prog 52 #[.string s] w (QuietR (.bool (placeB s)) w) := by
  by_cases h : s = ⟨#[]⟩
  · subst h
    go_enter Tryz.func52, Tryz.ntmps52
    go_wp2_with fail
    all_goals
      go_ret
      exact ⟨ret_b rfl, 0, rfl⟩
  · have HR : Hid (placeB s = pairL s.data.toList 47 6) := hide (by unfold placeB; rw [decide_eq_false (fun e => h (str_nil e))]; rfl)
    have hl : s.toList = [] ↔ False := by
      rw [Lib.toList_data]
      exact ⟨fun e => h (str_nil e), False.elim⟩
    have hl2 : (s.toList == []) = false := by
      rw [beq_eq_false_iff_ne]; exact fun e => hl.1 e
    have hl3 : s.toList.isEmpty = false := by
      cases hq : s.toList with
      | nil => exact (hl.1 hq).elim
      | cons a b => rfl
    clear h
    have PA := fun W => pair_any s 47 6 hs W
    go_enter Tryz.func52, Tryz.ntmps52
    go_wp2_with (first
      | (go_at_call 103; (with_reducible refine (PA _).mono ?_); rintro e w2 ⟨rfl, n, rfl⟩))
    all_goals first
      | (exfalso; simp_all; done)
      | (go_ret
         exact ⟨ret_b HR.out.symm, _, rfl⟩)
set_option maxRecDepth 100000 in
set_option maxHeartbeats 8000000 in
theorem way_any (s : ByteArray) (hs : s.size ≤ maxLen) (w : World) :
    Calls Tryz.prog 105 #[.string s] w (QuietR (.bool (wayB s)) w) := by
  by_cases h : s = ⟨#[]⟩
  · subst h
    go_enter Tryz.func105, Tryz.ntmps105
    go_wp2_with fail
    all_goals
      go_ret
      exact ⟨ret_b rfl, 0, rfl⟩
  · have HR : Hid (wayB s = pairL s.data.toList 46 8) := hide (by unfold wayB; rw [decide_eq_false (fun e => h (str_nil e))]; rfl)
    have hl : s.toList = [] ↔ False := by
      rw [Lib.toList_data]
      exact ⟨fun e => h (str_nil e), False.elim⟩
    have hl2 : (s.toList == []) = false := by
      rw [beq_eq_false_iff_ne]; exact fun e => hl.1 e
    have hl3 : s.toList.isEmpty = false := by
      cases hq : s.toList with
      | nil => exact (hl.1 hq).elim
      | cons a b => rfl
    clear h
    have PA := fun W => pair_any s 46 8 hs W
    go_enter Tryz.func105, Tryz.ntmps105
    go_wp2_with (first
      | (go_at_call 103; (with_reducible refine (PA _).mono ?_); rintro e w2 ⟨rfl, n, rfl⟩))
    all_goals first
      | (exfalso; simp_all; done)
      | (go_ret
         exact ⟨ret_b HR.out.symm, _, rfl⟩)
set_option maxRecDepth 100000 in
set_option maxHeartbeats 8000000 in
theorem psection_any (t : Int) (w : World) : Calls Tryz.prog 104 #[.int .u8 t] w fun e w' => e = .returned (.bool (decide (1 ≤ t ∧ t ≤ 5))) ∧ w = w' := by
  obtain ⟨V, hV⟩ : ∃ V, decide (1 ≤ t ∧ t ≤ 5) = V := ⟨_, rfl⟩
  rw [hV]
  have hcs : (decide (1 ≤ t) = false ∧ V = false) ∨ (decide (1 ≤ t) = true ∧ decide (t ≤ 5) = V) := by
    by_cases h : 1 ≤ t
    · exact .inr ⟨decide_eq_true h, by rw [← hV]; exact decide_eq_decide.2 (by omega)⟩
    · exact .inl ⟨decide_eq_false h, by rw [← hV]; exact decide_eq_false (by omega)⟩
  clear hV
  rcases hcs with ⟨e1, rfl⟩ | ⟨e1, e2⟩
  · go_enter Tryz.func104, Tryz.ntmps104
    go_wp2_with fail
    all_goals
      go_ret
      exact ⟨rfl, rfl⟩
  · go_enter Tryz.func104, Tryz.ntmps104
    go_wp2_with fail
    all_goals
      go_ret
      first | exact ⟨rfl, rfl⟩ | exact ⟨ret_b e2, rfl⟩
set_option maxRecDepth 100000 in
set_option maxHeartbeats 8000000 in
theorem starts_any (t : Int) (w : World) :
    Calls Tryz.prog 54 #[.int .u8 t] w fun e w' => e = .returned (.bool (startsB t)) ∧ w = w' := by
  go_enter Tryz.func54, Tryz.ntmps54
  go_wp2_with fail
  all_goals
    go_ret
    exact ⟨ret_b (by unfold startsB; (first | rfl | ((try simp only [beq_iff_eq, beq_eq_false_iff_ne, bne_iff_ne, bne_eq_false_iff_eq, ne_eq, decide_eq_true_eq, decide_eq_false_iff_not, Bool.not_eq_true] at *); first | omega | (refine (decide_eq_true ?_).symm; omega) | (refine (decide_eq_false ?_).symm; omega) | (refine decide_eq_decide.2 ?_; omega) | (rw [Bool.eq_iff_iff]; simp only [Bool.or_eq_true, Bool.and_eq_true, beq_iff_eq, bne_iff_ne, ne_eq, decide_eq_true_eq, Bool.not_eq_true', decide_eq_false_iff_not]; omega)))), rfl⟩
set_option maxRecDepth 100000 in
set_option maxHeartbeats 8000000 in
theorem ends_any (t : Int) (w : World) :
    Calls Tryz.prog 107 #[.int .u8 t] w fun e w' => e = .returned (.bool (endsB t)) ∧ w = w' := by
  go_enter Tryz.func107, Tryz.ntmps107
  go_wp2_with fail
  all_goals
    go_ret
    exact ⟨ret_b (by unfold endsB; (first | rfl | ((try simp only [beq_iff_eq, beq_eq_false_iff_ne, bne_iff_ne, bne_eq_false_iff_eq, ne_eq, decide_eq_true_eq, decide_eq_false_iff_not, Bool.not_eq_true] at *); first | omega | (refine (decide_eq_true ?_).symm; omega) | (refine (decide_eq_false ?_).symm; omega) | (refine decide_eq_decide.2 ?_; omega) | (rw [Bool.eq_iff_iff]; simp only [Bool.or_eq_true, Bool.and_eq_true, beq_iff_eq, bne_iff_ne, ne_eq, decide_eq_true_eq, Bool.not_eq_true', decide_eq_false_iff_not]; omega)))), rfl⟩
set_option maxRecDepth 100000 in
set_option maxHeartbeats 8000000 in
theorem from_any (t : Int) (w : World) :
    Calls Tryz.prog 21 #[.int .u8 t] w fun e w' => e = .returned (.bool (fromB t)) ∧ w = w' := by
  go_enter Tryz.func21, Tryz.ntmps21
  go_wp2_with fail
  all_goals
    go_ret
    exact ⟨ret_b (by unfold fromB; (first | rfl | ((try simp only [beq_iff_eq, beq_eq_false_iff_ne, bne_iff_ne, bne_eq_false_iff_eq, ne_eq, decide_eq_true_eq, decide_eq_false_iff_not, Bool.not_eq_true] at *); first | omega | (refine (decide_eq_true ?_).symm; omega) | (refine (decide_eq_false ?_).symm; omega) | (refine decide_eq_decide.2 ?_; omega) | (rw [Bool.eq_iff_iff]; simp only [Bool.or_eq_true, Bool.and_eq_true, beq_iff_eq, bne_iff_ne, ne_eq, decide_eq_true_eq, Bool.not_eq_true', decide_eq_false_iff_not]; omega)))), rfl⟩
set_option maxRecDepth 100000 in
set_option maxHeartbeats 8000000 in
theorem follows_any (a b : Int) (w : World) :
    Calls Tryz.prog 106 #[.int .u8 a, .int .u8 b] w fun e w' => e = .returned (.bool (followsB a b)) ∧ w = w' := by
  by_cases ha : a < 1 ∨ 17 < a
  · have KA := fun W => known_no a W ha
    have HR : Hid (followsB a b = false) := hide (decide_eq_false (by omega))
    clear ha
    go_enter Tryz.func106, Tryz.ntmps106
    go_wp2_with (go_at_call 57; (with_reducible refine (KA _).mono ?_); rintro e W1 ⟨rfl, rfl⟩)
    all_goals
      go_ret
      exact ⟨ret_b HR.out.symm, rfl⟩
  have KA := fun W => known_yes a W (by omega) (by omega)
  by_cases hb : b < 1 ∨ 17 < b
  · have KB := fun W => known_no b W hb
    have HR : Hid (followsB a b = false) := hide (decide_eq_false (by omega))
    clear ha hb
    go_enter Tryz.func106, Tryz.ntmps106
    go_wp2_with (first | (go_at_call 57; (with_reducible refine (KA _).mono ?_); rintro e W1 ⟨rfl, rfl⟩) | (go_at_call 57; (with_reducible refine (KB _).mono ?_); rintro e W1 ⟨rfl, rfl⟩))
    all_goals
      go_ret
      exact ⟨ret_b HR.out.symm, rfl⟩
  have KB := fun W => known_yes b W (by omega) (by omega)
  have a1 : 1 ≤ a := by omega
  have a2 : a ≤ 17 := by omega
  have b1 : 1 ≤ b := by omega
  have b2 : b ≤ 17 := by omega
  clear ha hb
  go_enter Tryz.func106, Tryz.ntmps106
  go_wp2_with (first | (go_at_call 57; (with_reducible refine (KA _).mono ?_); rintro e W1 ⟨rfl, rfl⟩) | (go_at_call 57; (with_reducible refine (KB _).mono ?_); rintro e W1 ⟨rfl, rfl⟩))
  all_goals
    go_ret
    exact ⟨ret_b (by unfold followsB; (first | rfl | ((try simp only [beq_iff_eq, beq_eq_false_iff_ne, bne_iff_ne, bne_eq_false_iff_eq, ne_eq, decide_eq_true_eq, decide_eq_false_iff_not, Bool.not_eq_true] at *); first | omega | (refine (decide_eq_true ?_).symm; omega) | (refine (decide_eq_false ?_).symm; omega) | (refine decide_eq_decide.2 ?_; omega) | (rw [Bool.eq_iff_iff]; simp only [Bool.or_eq_true, Bool.and_eq_true, beq_iff_eq, bne_iff_ne, ne_eq, decide_eq_true_eq, Bool.not_eq_true', decide_eq_false_iff_not]; omega)))), rfl⟩
set_option maxRecDepth 100000 in
set_option maxHeartbeats 8000000 in
theorem joins_any (y x : En) (w : World) :
    Calls Tryz.prog 55 #[.agg y.leg.toArray, .agg x.leg.toArray] w fun e w' => e = .returned (.bool (joinsB y x)) ∧ Below w.heap.size w w' := by
  have FO := fun W => follows_any y.ty x.ty W
  have FR := fun W => from_any x.ty W
  have HR := hide (show joinsB y x = (followsB y.ty x.ty && (!fromB x.ty || decide (y.fx = x.fx))) from rfl)
  rcases h1 : followsB y.ty x.ty with _ | _ <;> rcases h2 : fromB x.ty with _ | _
  all_goals
    rw [h1] at FO HR
    rw [h2] at FR HR
    clear h1 h2
    have hM := mem_nil w
    go_enter Tryz.func55, Tryz.ntmps55
    go_wp2_with (first
    | (go_at_call 106; (with_reducible refine (FO _).mono ?_); rintro e W1 ⟨rfl, rfl⟩)
    | (go_at_call 21; (with_reducible refine (FR _).mono ?_); rintro e W1 ⟨rfl, rfl⟩)
    | ((with_reducible refine at_ldx ?_); refine' mg_load1 hM rfl rfl ?_ ?_ ?_ ?_ ?_; rotate_left 3; (· first | exact rfl | (go_simp; done)); (· repeat constructor); (· exact scT rfl); (· exact rfl))
    | ((with_reducible refine at_ldx ?_); refine' mg_load hM rfl rfl ?_ ?_ ?_ ?_ ?_ ?_; rotate_left 4; (· first | exact rfl | (go_simp; done)); (· repeat constructor); (· exact agT rfl); (· exact szT rfl); (· repeat constructor))
    | ((with_reducible refine at_stx ?_); refine' ms_store hM rfl rfl rfl ?_ ?_ ?_ ?_ ?_ ?_ ?_ ?_; rotate_left 6; (· constructor); (· repeat constructor); (· repeat constructor); (· repeat constructor); (· exact szT rfl); (· rfl); (· exact onecells rfl); (clear hM; intro W hM))
    | ((with_reducible refine at_bxx ?_); refine' mp_box hM rfl rfl ?_ ?_; rotate_left 1; (· constructor); (clear hM; intro g W hM))
    | ((with_reducible refine at_alx ?_); refine' mp_alloc hM rfl rfl ?_ rfl ?_; rotate_left 1; (· exact zoT rfl); (clear hM; intro g W hM)))
    all_goals
      go_ret
      exact ⟨ret_b (by rw [HR.out]; first | rfl | (simp; done) | (rw [Bool.eq_iff_iff]; simp [str_iff])), hM.below⟩
set_option maxRecDepth 100000 in
set_option maxHeartbeats 8000000 in
theorem arrived_any (y x : En) (w : World) :
    Calls Tryz.prog 56 #[.agg y.leg.toArray, .agg x.leg.toArray] w fun e w' => e = .returned (.bool (arrivedB y x)) ∧ Below w.heap.size w w' := by
  have EN := fun W => ends_any y.ty W
  have HR := hide (show arrivedB y x = (endsB y.ty && decide (y.fx = x.fx)) from rfl)
  rcases h1 : endsB y.ty with _ | _
  all_goals
    rw [h1] at EN HR
    clear h1
    have hM := mem_nil w
    go_enter Tryz.func56, Tryz.ntmps56
    go_wp2_with (first
    | (go_at_call 107; (with_reducible refine (EN _).mono ?_); rintro e W1 ⟨rfl, rfl⟩)
    | ((with_reducible refine at_ldx ?_); refine' mg_load1 hM rfl rfl ?_ ?_ ?_ ?_ ?_; rotate_left 3; (· first | exact rfl | (go_simp; done)); (· repeat constructor); (· exact scT rfl); (· exact rfl))
    | ((with_reducible refine at_ldx ?_); refine' mg_load hM rfl rfl ?_ ?_ ?_ ?_ ?_ ?_; rotate_left 4; (· first | exact rfl | (go_simp; done)); (· repeat constructor); (· exact agT rfl); (· exact szT rfl); (· repeat constructor))
    | ((with_reducible refine at_stx ?_); refine' ms_store hM rfl rfl rfl ?_ ?_ ?_ ?_ ?_ ?_ ?_ ?_; rotate_left 6; (· constructor); (· repeat constructor); (· repeat constructor); (· repeat constructor); (· exact szT rfl); (· rfl); (· exact onecells rfl); (clear hM; intro W hM))
    | ((with_reducible refine at_bxx ?_); refine' mp_box hM rfl rfl ?_ ?_; rotate_left 1; (· constructor); (clear hM; intro g W hM))
    | ((with_reducible refine at_alx ?_); refine' mp_alloc hM rfl rfl ?_ rfl ?_; rotate_left 1; (· exact zoT rfl); (clear hM; intro g W hM)))
    all_goals
      go_ret
      exact ⟨ret_b (by rw [HR.out]; first | rfl | (simp; done) | (rw [Bool.eq_iff_iff]; simp [str_iff])), hM.below⟩
end Go.Proofs.YtjjdojokkmfbmaaGreatDoor
