/-
  The reference: pair, Place, Via, Section; Starts, Ends, From, Follows, Joins; for all arguments.
-/
import Derived.Test.YtjjdojokkmfbmaaGreatDoorMHasU
import Derived.Test.YtjjdojokkmfbmaaGreatDoorMPlan1
set_option maxRecDepth 100000
set_option maxHeartbeats 16000000
namespace Go.Proofs.YtjjdojokkmfbmaaGreatDoor
open Go.RowKit
set_option linter.unusedVariables false
set_option linter.unusedSimpArgs false
theorem rpair_any (s : ByteArray) (b : UInt8) (B : Int) (hB : B = b.toNat) (m : Int) (hs : s.size ≤ maxLen) (w : World) :
    Calls Tryz.prog 141 #[.string s, .int .u8 B, .int .i64 m] w (QuietR (.bool (pairL s.data.toList b m)) w) := by
  have hm := hs
  unfold maxLen at hs
  have NS := fun W => r8name_s s m hm W
  go_enter Tryz.func141, Tryz.ntmps141
  go_wp2_with fail
  go_loop [7] (fun i => ∃ k : Nat, k ≤ s.size ∧ i = .int .i64 k ∧ Hid (b ∉ s.data.toList.take k)) (fun i => s.size - (intOf i).toNat)
  case atStart => exact ⟨0, by omega, rfl, hide (by simp)⟩
  case round =>
    obtain ⟨k, hk, rfl, hA⟩ := hrel
    by_cases hlt : k < s.size
    · by_cases hc : s[k] = b
      · have hcut : CutIs s b (s.extract 0 k) (s.extract (k + 1) s.size) true := by
          refine .inl ⟨rfl, ?_, ?_, ?_⟩
          · rw [cut_at s b k hlt hc hA.out]
            congr 2
            · simp [ByteArray.data_extract]
            · simp only [ByteArray.data_extract, Array.toList_extract, List.extract]
              rw [List.take_of_length_le (by simp)]
          · simp [ByteArray.size_extract]; omega
          · simp [ByteArray.size_extract]
        have hsz := cut_size hcut
        have hc1 : ((s[k].toNat : Int) == B) = true := by rw [hc, hB]; simp
        have HP := hide (pair_two hcut m)
        clear hcut hc
        have NX := fun W => r8name_s (s.extract 0 k) m (by unfold maxLen; omega) W
        have NY := fun W => r8name_s (s.extract (k + 1) s.size) m (by unfold maxLen; omega) W
        clear hsz
        have a1 : (0 : Int) ≤ (k : Int) := by omega
        have a2 : (k : Int) ≤ (s.size : Int) := by omega
        have a3 : (0 : Int) ≤ (k : Int) + 1 := by omega
        have a4 : (k : Int) + 1 ≤ (s.size : Int) := by omega
        have iw : IntKind.i64.wrap ((k : Int) + 1) = (k : Int) + 1 := IntWalk.i64_in _ (by omega)
        have tn : ((k : Int) + 1).toNat = k + 1 := by omega
        clear hB
        rcases h1 : nameL (s.extract 0 k).data.toList m with _ | _ <;> rcases h2 : nameL (s.extract (k + 1) s.size).data.toList m with _ | _
        all_goals
          rw [h1] at NX HP
          rw [h2] at NY HP
          clear h1 h2
          go_wp2_with (first | (go_at_call 159; with_reducible refine (NX _).mono ?_; rintro e w2 ⟨rfl, rfl⟩) | (go_at_call 159; with_reducible refine (NY _).mono ?_; rintro e w2 ⟨rfl, rfl⟩))
          go_ret
          exact ⟨ret_b HP.out.symm, 0, rfl⟩
      · have hc1 : ((s[k].toNat : Int) == B) = false := by
          rw [beq_eq_false_iff_ne, hB]
          intro e
          exact hc (UInt8.toNat_inj.1 (by omega))
        have hstep : Hid (b ∉ s.data.toList.take (k + 1)) := hide (by
          rw [take_snoc s k hlt]
          intro hm
          rcases List.mem_append.1 hm with hm | hm
          · exact hA.out hm
          · exact hc (by simpa using hm : b = s[k]).symm)
        clear hc hB
        go_wp2_with fail
        all_goals
          go_round
          case rel => exact ⟨k + 1, by omega, by go_num, hstep⟩
          case measure => simp [intOf]; omega
    · have hR : Hid (pairL s.data.toList b m = nameL s.data.toList m) := hide (by
        have h2 := hA.out
        rw [List.take_of_length_le (by simp; omega)] at h2
        unfold pairL
        rw [cut_none h2])
      clear hB
      go_wp2_with (first | (go_at_call 159; with_reducible refine (NS _).mono ?_; rintro e w2 ⟨rfl, rfl⟩))
      go_ret
      exact ⟨ret_b hR.out.symm, 0, rfl⟩
theorem rplace_any (s : ByteArray) (hs : s.size ≤ maxLen) (w : World) :
    Calls Tryz.prog 98 #[.string s] w (QuietR (.bool (placeB s)) w) := by
  by_cases h : s = ⟨#[]⟩
  · subst h
    go_enter Tryz.func98, Tryz.ntmps98
    go_wp2_with fail
    all_goals
      go_ret
      exact ⟨ret_b rfl, 0, rfl⟩
  · have HR : Hid (placeB s = pairL s.data.toList 47 6) := hide (by unfold placeB; rw [decide_eq_false (fun e => h (str_nil e))]; rfl)
    have hl : s.toList = [] ↔ False := by
      rw [Lib.toList_data]
      exact ⟨fun e => h (str_nil e), False.elim⟩
    have hl2 : (s.toList == []) = false := by
      rw [beq_eq_false_iff_ne]; exact fun e => hl.1 e
    have hl3 : s.toList.isEmpty = false := by
      cases hq : s.toList with
      | nil => exact (hl.1 hq).elim
      | cons a b => rfl
    clear h
    have PA := fun W => rpair_any s 47 47 rfl 6 hs W
    go_enter Tryz.func98, Tryz.ntmps98
    go_wp2_with (first | (go_at_call 141; (with_reducible refine (PA _).mono ?_); rintro e w2 ⟨rfl, n, rfl⟩))
    all_goals first
      | (exfalso; simp_all; done)
      | (go_ret
         exact ⟨ret_b HR.out.symm, _, rfl⟩)
theorem rvia_any (s : ByteArray) (hs : s.size ≤ maxLen) (w : World) :
    Calls Tryz.prog 143 #[.string s] w (QuietR (.bool (wayB s)) w) := by
  by_cases h : s = ⟨#[]⟩
  · subst h
    go_enter Tryz.func143, Tryz.ntmps143
    go_wp2_with fail
    all_goals
      go_ret
      exact ⟨ret_b rfl, 0, rfl⟩
  · have HR : Hid (wayB s = pairL s.data.toList 46 8) := hide (by unfold wayB; rw [decide_eq_false (fun e => h (str_nil e))]; rfl)
    have hl : s.toList = [] ↔ False := by
      rw [Lib.toList_data]
      exact ⟨fun e => h (str_nil e), False.elim⟩
    have hl2 : (s.toList == []) = false := by
      rw [beq_eq_false_iff_ne]; exact fun e => hl.1 e
    have hl3 : s.toList.isEmpty = false := by
      cases hq : s.toList with
      | nil => exact (hl.1 hq).elim
      | cons a b => rfl
    clear h
    have PA := fun W => rpair_any s 46 46 rfl 8 hs W
    go_enter Tryz.func143, Tryz.ntmps143
    go_wp2_with (first | (go_at_call 141; (with_reducible refine (PA _).mono ?_); rintro e w2 ⟨rfl, n, rfl⟩))
    all_goals first
      | (exfalso; simp_all; done)
      | (go_ret
         exact ⟨ret_b HR.out.symm, _, rfl⟩)
theorem rsection_any (t : Int) (w : World) : Calls Tryz.prog 142 #[.int .u8 t] w fun e w' => e = .returned (.bool (decide (1 ≤ t ∧ t ≤ 5))) ∧ w = w' := by
  obtain ⟨V, hV⟩ : ∃ V, decide (1 ≤ t ∧ t ≤ 5) = V := ⟨_, rfl⟩
  rw [hV]
  have hcs : (decide (1 ≤ t) = false ∧ V = false) ∨ (decide (1 ≤ t) = true ∧ decide (t ≤ 5) = V) := by
    by_cases h : 1 ≤ t
    · exact .inr ⟨decide_eq_true h, by rw [← hV]; exact decide_eq_decide.2 (by omega)⟩
    · exact .inl ⟨decide_eq_false h, by rw [← hV]; exact decide_eq_false (by omega)⟩
  clear hV
  rcases hcs with ⟨e1, rfl⟩ | ⟨e1, e2⟩
  · go_enter Tryz.func142, Tryz.ntmps142
    go_wp2_with fail
    all_goals
      go_ret
      exact ⟨rfl, rfl⟩
  · go_enter Tryz.func142, Tryz.ntmps142
    go_wp2_with fail
    all_goals
      go_ret
      first | exact ⟨rfl, rfl⟩ | exact ⟨ret_b e2, rfl⟩
theorem rstarts_any (t : Int) (w : World) :
    Calls Tryz.prog 100 #[.int .u8 t] w fun e w' => e = .returned (.bool (startsB t)) ∧ w = w' := by
  go_enter Tryz.func100, Tryz.ntmps100
  go_wp2_with fail
  all_goals
    go_ret
    exact ⟨ret_b (by unfold startsB; (first | rfl | ((try simp only [beq_iff_eq, beq_eq_false_iff_ne, bne_iff_ne, bne_eq_false_iff_eq, ne_eq, decide_eq_true_eq, decide_eq_false_iff_not, Bool.not_eq_true] at *); first | omega | (refine (decide_eq_true ?_).symm; omega) | (refine (decide_eq_false ?_).symm; omega) | (refine decide_eq_decide.2 ?_; omega) | (rw [Bool.eq_iff_iff]; simp only [Bool.or_eq_true, Bool.and_eq_true, beq_iff_eq, bne_iff_ne, ne_eq, decide_eq_true_eq, Bool.not_eq_true', decide_eq_false_iff_not]; omega)))), rfl⟩
theorem rends_any (t : Int) (w : World) :
    Calls Tryz.prog 102 #[.int .u8 t] w fun e w' => e = .returned (.bool (endsB t)) ∧ w = w' := by
  obtain ⟨V, hV⟩ : ∃ V, endsB t = V := ⟨_, rfl⟩
  rw [hV]
  have hcs : (decide (1 ≤ t) = false ∧ decide (14 ≤ t) = false ∧ V = false) ∨ (decide (1 ≤ t) = true ∧ decide (t ≤ 6) = true ∧ V = true) ∨ (decide (1 ≤ t) = true ∧ decide (t ≤ 6) = false ∧ decide (14 ≤ t) = false ∧ V = false) ∨ (decide (1 ≤ t) = true ∧ decide (t ≤ 6) = false ∧ decide (14 ≤ t) = true ∧ decide (t ≤ 17) = V) := by
    unfold endsB at hV
    by_cases h : 1 ≤ t
    · by_cases h6 : t ≤ 6
      · exact .inr (.inl ⟨decide_eq_true h, decide_eq_true h6, by rw [← hV]; exact decide_eq_true (by omega)⟩)
      · by_cases h14 : 14 ≤ t
        · exact .inr (.inr (.inr ⟨decide_eq_true h, decide_eq_false h6, decide_eq_true h14, by rw [← hV]; exact decide_eq_decide.2 (by omega)⟩))
        · exact .inr (.inr (.inl ⟨decide_eq_true h, decide_eq_false h6, decide_eq_false h14, by rw [← hV]; exact decide_eq_false (by omega)⟩))
    · exact .inl ⟨decide_eq_false h, decide_eq_false (by omega), by rw [← hV]; exact decide_eq_false (by omega)⟩
  clear hV
  rcases hcs with ⟨e1, e2, rfl⟩ | ⟨e1, e2, rfl⟩ | ⟨e1, e2, e3, rfl⟩ | ⟨e1, e2, e3, e4⟩
  all_goals
    go_enter Tryz.func102, Tryz.ntmps102
    go_wp2_with fail
    all_goals
      go_ret
      first | exact ⟨rfl, rfl⟩ | exact ⟨ret_b e4, rfl⟩
theorem rfrom_any (t : Int) (w : World) :
    Calls Tryz.prog 145 #[.int .u8 t] w fun e w' => e = .returned (.bool (fromB t)) ∧ w = w' := by
  obtain ⟨V, hV⟩ : ∃ V, fromB t = V := ⟨_, rfl⟩
  rw [hV]
  have hcs : (decide (11 ≤ t) = false ∧ V = false) ∨ (decide (11 ≤ t) = true ∧ decide (t ≤ 17) = V) := by
    unfold fromB at hV
    by_cases h : 11 ≤ t
    · exact .inr ⟨decide_eq_true h, by rw [← hV]; exact decide_eq_decide.2 (by omega)⟩
    · exact .inl ⟨decide_eq_false h, by rw [← hV]; exact decide_eq_false (by omega)⟩
  clear hV
  rcases hcs with ⟨e1, rfl⟩ | ⟨e1, e2⟩
  all_goals
    go_enter Tryz.func145, Tryz.ntmps145
    go_wp2_with fail
    all_goals
      go_ret
      first | exact ⟨rfl, rfl⟩ | exact ⟨ret_b e2, rfl⟩
theorem usesS_yes {t : Int} (h1 : 1 ≤ t) (h2 : t ≤ 17) : usesS t ≠ ⟨#[]⟩ := fun e => by
  obtain ⟨n, rfl⟩ : ∃ n : Nat, t = n := ⟨t.toNat, by omega⟩
  have := (uses_size n (by omega)).2 (by omega)
  rw [e] at this
  exact absurd this (by decide)
theorem rfollows_any (a b : Int) (w : World) :
    Calls Tryz.prog 144 #[.int .u8 a, .int .u8 b] w fun e w' => e = .returned (.bool (followsB a b)) ∧ w = w' := by
  have UA := fun W => uses_any a W
  have UB := fun W => uses_any b W
  by_cases ha : a < 1 ∨ 17 < a
  · rw [usesS_no ha] at UA
    have HR : Hid (followsB a b = false) := hide (decide_eq_false (by omega))
    clear ha UB
    go_enter Tryz.func144, Tryz.ntmps144
    go_wp2_with (first | (go_at_call 73; (with_reducible refine (UA _).mono ?_); rintro e W1 ⟨rfl, rfl⟩))
    all_goals
      go_ret
      exact ⟨ret_b HR.out.symm, rfl⟩
  have na := usesS_yes (t := a) (by omega) (by omega)
  obtain ⟨sa, ea⟩ : ∃ sa, usesS a = sa := ⟨_, rfl⟩
  rw [ea] at UA na
  clear ea
  obtain ⟨f1, f2, f3⟩ := str_ne na
  clear na
  by_cases hb : b < 1 ∨ 17 < b
  · rw [usesS_no hb] at UB
    have HR : Hid (followsB a b = false) := hide (decide_eq_false (by omega))
    clear ha hb
    go_enter Tryz.func144, Tryz.ntmps144
    go_wp2_with (first | (go_at_call 73; (with_reducible refine (UA _).mono ?_); rintro e W1 ⟨rfl, rfl⟩) | (go_at_call 73; (with_reducible refine (UB _).mono ?_); rintro e W1 ⟨rfl, rfl⟩))
    all_goals
      go_ret
      exact ⟨ret_b HR.out.symm, rfl⟩
  have nb := usesS_yes (t := b) (by omega) (by omega)
  obtain ⟨sb, eb⟩ : ∃ sb, usesS b = sb := ⟨_, rfl⟩
  rw [eb] at UB nb
  clear eb
  obtain ⟨g1, g2, g3⟩ := str_ne nb
  clear nb
  have a1 : 1 ≤ a := by omega
  have a2 : a ≤ 17 := by omega
  have b1 : 1 ≤ b := by omega
  have b2 : b ≤ 17 := by omega
  clear ha hb
  obtain ⟨V, hV⟩ : ∃ V, followsB a b = V := ⟨_, rfl⟩
  rw [hV]
  unfold followsB at hV
  have HV := hide hV
  clear hV
  by_cases hb1 : b = 1
  · have hq : (b == 1) = true := by simpa using hb1
    have hV2 : V = false := by rw [← HV.out]; exact decide_eq_false (by omega)
    clear HV hb1
    subst hV2
    go_enter Tryz.func144, Tryz.ntmps144
    go_wp2_with (first | (go_at_call 73; (with_reducible refine (UA _).mono ?_); rintro e W1 ⟨rfl, rfl⟩) | (go_at_call 73; (with_reducible refine (UB _).mono ?_); rintro e W1 ⟨rfl, rfl⟩))
    all_goals
      go_ret
      exact ⟨rfl, rfl⟩
  have hq : (b == 1) = false := by simpa using hb1
  go_enter Tryz.func144, Tryz.ntmps144
  go_wp2_with (first | (go_at_call 73; (with_reducible refine (UA _).mono ?_); rintro e W1 ⟨rfl, rfl⟩) | (go_at_call 73; (with_reducible refine (UB _).mono ?_); rintro e W1 ⟨rfl, rfl⟩))
  all_goals
    go_ret
    exact ⟨ret_b (by rw [← HV.out]; (first | rfl | ((try simp only [beq_iff_eq, beq_eq_false_iff_ne, bne_iff_ne, bne_eq_false_iff_eq, ne_eq, decide_eq_true_eq, decide_eq_false_iff_not, Bool.not_eq_true] at *); first | omega | (refine (decide_eq_true ?_).symm; omega) | (refine (decide_eq_false ?_).symm; omega) | (refine decide_eq_decide.2 ?_; omega) | (rw [Bool.eq_iff_iff]; simp only [Bool.or_eq_true, Bool.and_eq_true, beq_iff_eq, bne_iff_ne, ne_eq, decide_eq_true_eq, Bool.not_eq_true', decide_eq_false_iff_not]; omega)))), rfl⟩
theorem rjoins_any (y x : En) (w : World) :
    Calls Tryz.prog 101 #[.agg y.leg.toArray, .agg x.leg.toArray] w fun e w' => e = .returned (.bool (joinsB y x)) ∧ Below w.heap.size w w' := by
  have FO := fun W => rfollows_any y.ty x.ty W
  have FR := fun W => rfrom_any x.ty W
  have HR := hide (show joinsB y x = (followsB y.ty x.ty && (!fromB x.ty || decide (y.fx = x.fx))) from rfl)
  rcases h1 : followsB y.ty x.ty with _ | _ <;> rcases h2 : fromB x.ty with _ | _
  all_goals
    rw [h1] at FO HR
    rw [h2] at FR HR
    clear h1 h2
    have hM := mem_nil w
    go_enter Tryz.func101, Tryz.ntmps101
    go_wp2_with (first | (go_at_call 144; (with_reducible refine (FO _).mono ?_); rintro e W1 ⟨rfl, rfl⟩) | (go_at_call 145; (with_reducible refine (FR _).mono ?_); rintro e W1 ⟨rfl, rfl⟩) | ((with_reducible refine lX ?_); first | refine aL hM rfl rfl ?_ | refine aM hM rfl rfl ?_) | ((with_reducible refine sX ?_); refine aS hM rfl rfl rfl ?_; clear hM; intro W hM) | ((with_reducible refine bX ?_); refine aB hM rfl rfl ?_; clear hM; intro g W hM) | ((with_reducible refine zX ?_); refine aN hM rfl rfl ?_; clear hM; intro g W hM))
    all_goals
      go_ret
      exact ⟨ret_b (by rw [HR.out]; first | rfl | (simp; done) | (rw [Bool.eq_iff_iff]; simp [str_iff])), hM.below⟩
end Go.Proofs.YtjjdojokkmfbmaaGreatDoor
/-
  The reference: Single for all entries.
-/
namespace Go.Proofs.YtjjdojokkmfbmaaGreatDoor
open Go.RowKit
set_option linter.unusedVariables false
set_option linter.unusedSimpArgs false
set_option maxRecDepth 100000 in
set_option maxHeartbeats 8000000 in
theorem ralone_any (x : En) (hx : EnX x) (w : World) :
    Calls Tryz.prog 99 #[.agg x.cells.toArray] w fun e w' => e = .returned (.int .i64 (aloneF x)) ∧ Below w.heap.size w w' := by
  have LC := fun W => rlcheck_any x hx.w.leg W
  have SE := fun W => rsection_any x.sec W
  have WA := fun W => rvia_any x.via hx.via W
  have P1 := fun W => rpvalid_b x.ex x.ey W
  have P2 := fun W => rpvalid_b x.mx x.my W
  obtain ⟨E0, hE⟩ : ∃ E0, legF x = E0 := ⟨_, rfl⟩
  obtain ⟨R, hR⟩ : ∃ R, aloneF x = R := ⟨_, rfl⟩
  have HT := hide hR
  unfold aloneF at hR
  rw [hE] at LC hR
  clear hE
  by_cases hL : E0 = 0
  rotate_left 1
  · rw [if_pos hL] at hR
    subst hR
    have hne : (E0 != 0) = true := by simpa using hL
    clear hL
    have hM := mem_nil w
    go_enter Tryz.func99, Tryz.ntmps99
    go_wp2_with (first | (go_at_call 35; (refine (LC _).mono ?_); rintro e W1 ⟨rfl, hb⟩; replace hM := mem_below hM hb; clear hb) | (go_at_call 142; (with_reducible refine (SE _).mono ?_); rintro e W1 ⟨rfl, rfl⟩) | (go_at_call 143; (with_reducible refine (WA _).mono ?_); rintro e W1 ⟨rfl, hq⟩; replace hM := mem_q hM hq; clear hq) | (go_at_call 36; (with_reducible refine cb hM (P1 _) ?_); clear hM; intro W1 hM) | (go_at_call 36; (with_reducible refine cb hM (P2 _) ?_); clear hM; intro W1 hM) | ((with_reducible refine lX ?_); first | refine aL hM rfl rfl ?_ | refine aM hM rfl rfl ?_) | ((with_reducible refine sX ?_); refine aS hM rfl rfl rfl ?_; clear hM; intro W hM) | ((with_reducible refine bX ?_); refine aB hM rfl rfl ?_; clear hM; intro g W hM) | ((with_reducible refine zX ?_); refine aN hM rfl rfl ?_; clear hM; intro g W hM))
    all_goals first
      | (go_ret; exact ⟨ret_int HT.out.symm, hM.below⟩; done)
      | (exfalso; simp_all; done)
  subst hL
  rw [if_neg (by simp)] at hR
  by_cases hs : x.sec < 1 ∨ x.sec > 5
  · rw [if_pos hs] at hR
    subst hR
    rw [decide_eq_false (by omega)] at SE
    clear hs
    have hM := mem_nil w
    go_enter Tryz.func99, Tryz.ntmps99
    go_wp2_with (first | (go_at_call 35; (refine (LC _).mono ?_); rintro e W1 ⟨rfl, hb⟩; replace hM := mem_below hM hb; clear hb) | (go_at_call 142; (with_reducible refine (SE _).mono ?_); rintro e W1 ⟨rfl, rfl⟩) | (go_at_call 143; (with_reducible refine (WA _).mono ?_); rintro e W1 ⟨rfl, hq⟩; replace hM := mem_q hM hq; clear hq) | (go_at_call 36; (with_reducible refine cb hM (P1 _) ?_); clear hM; intro W1 hM) | (go_at_call 36; (with_reducible refine cb hM (P2 _) ?_); clear hM; intro W1 hM) | ((with_reducible refine lX ?_); first | refine aL hM rfl rfl ?_ | refine aM hM rfl rfl ?_) | ((with_reducible refine sX ?_); refine aS hM rfl rfl rfl ?_; clear hM; intro W hM) | ((with_reducible refine bX ?_); refine aB hM rfl rfl ?_; clear hM; intro g W hM) | ((with_reducible refine zX ?_); refine aN hM rfl rfl ?_; clear hM; intro g W hM))
    all_goals first
      | (go_ret; exact ⟨ret_int HT.out.symm, hM.below⟩; done)
      | (exfalso; simp_all; done)
  rw [if_neg hs] at hR
  rw [decide_eq_true (by omega)] at SE
  clear hs
  rcases hw : wayB x.via with _ | _
  · rw [hw, if_pos rfl] at hR
    rw [hw] at WA
    subst hR
    clear hw
    have hM := mem_nil w
    go_enter Tryz.func99, Tryz.ntmps99
    go_wp2_with (first | (go_at_call 35; (refine (LC _).mono ?_); rintro e W1 ⟨rfl, hb⟩; replace hM := mem_below hM hb; clear hb) | (go_at_call 142; (with_reducible refine (SE _).mono ?_); rintro e W1 ⟨rfl, rfl⟩) | (go_at_call 143; (with_reducible refine (WA _).mono ?_); rintro e W1 ⟨rfl, hq⟩; replace hM := mem_q hM hq; clear hq) | (go_at_call 36; (with_reducible refine cb hM (P1 _) ?_); clear hM; intro W1 hM) | (go_at_call 36; (with_reducible refine cb hM (P2 _) ?_); clear hM; intro W1 hM) | ((with_reducible refine lX ?_); first | refine aL hM rfl rfl ?_ | refine aM hM rfl rfl ?_) | ((with_reducible refine sX ?_); refine aS hM rfl rfl rfl ?_; clear hM; intro W hM) | ((with_reducible refine bX ?_); refine aB hM rfl rfl ?_; clear hM; intro g W hM) | ((with_reducible refine zX ?_); refine aN hM rfl rfl ?_; clear hM; intro g W hM))
    all_goals first
      | (go_ret; exact ⟨ret_int HT.out.symm, hM.below⟩; done)
      | (exfalso; simp_all; done)
  rw [hw, if_neg (by simp)] at hR
  rw [hw] at WA
  clear hw
  rcases v1 : vldB x.ex x.ey with _ | _
  · rw [v1, if_pos (by simp)] at hR
    rw [v1] at P1
    subst hR
    clear v1
    have hM := mem_nil w
    go_enter Tryz.func99, Tryz.ntmps99
    go_wp2_with (first | (go_at_call 35; (refine (LC _).mono ?_); rintro e W1 ⟨rfl, hb⟩; replace hM := mem_below hM hb; clear hb) | (go_at_call 142; (with_reducible refine (SE _).mono ?_); rintro e W1 ⟨rfl, rfl⟩) | (go_at_call 143; (with_reducible refine (WA _).mono ?_); rintro e W1 ⟨rfl, hq⟩; replace hM := mem_q hM hq; clear hq) | (go_at_call 36; (with_reducible refine cb hM (P1 _) ?_); clear hM; intro W1 hM) | (go_at_call 36; (with_reducible refine cb hM (P2 _) ?_); clear hM; intro W1 hM) | ((with_reducible refine lX ?_); first | refine aL hM rfl rfl ?_ | refine aM hM rfl rfl ?_) | ((with_reducible refine sX ?_); refine aS hM rfl rfl rfl ?_; clear hM; intro W hM) | ((with_reducible refine bX ?_); refine aB hM rfl rfl ?_; clear hM; intro g W hM) | ((with_reducible refine zX ?_); refine aN hM rfl rfl ?_; clear hM; intro g W hM))
    all_goals first
      | (go_ret; exact ⟨ret_int HT.out.symm, hM.below⟩; done)
      | (exfalso; simp_all; done)
  rcases v2 : vldB x.mx x.my with _ | _
  · rw [v1, v2, if_pos (by simp)] at hR
    rw [v1] at P1
    rw [v2] at P2
    subst hR
    clear v1 v2
    have hM := mem_nil w
    go_enter Tryz.func99, Tryz.ntmps99
    go_wp2_with (first | (go_at_call 35; (refine (LC _).mono ?_); rintro e W1 ⟨rfl, hb⟩; replace hM := mem_below hM hb; clear hb) | (go_at_call 142; (with_reducible refine (SE _).mono ?_); rintro e W1 ⟨rfl, rfl⟩) | (go_at_call 143; (with_reducible refine (WA _).mono ?_); rintro e W1 ⟨rfl, hq⟩; replace hM := mem_q hM hq; clear hq) | (go_at_call 36; (with_reducible refine cb hM (P1 _) ?_); clear hM; intro W1 hM) | (go_at_call 36; (with_reducible refine cb hM (P2 _) ?_); clear hM; intro W1 hM) | ((with_reducible refine lX ?_); first | refine aL hM rfl rfl ?_ | refine aM hM rfl rfl ?_) | ((with_reducible refine sX ?_); refine aS hM rfl rfl rfl ?_; clear hM; intro W hM) | ((with_reducible refine bX ?_); refine aB hM rfl rfl ?_; clear hM; intro g W hM) | ((with_reducible refine zX ?_); refine aN hM rfl rfl ?_; clear hM; intro g W hM))
    all_goals first
      | (go_ret; exact ⟨ret_int HT.out.symm, hM.below⟩; done)
      | (exfalso; simp_all; done)
  rw [v1, v2, if_neg (by simp)] at hR
  rw [v1] at P1
  rw [v2] at P2
  clear v1 v2
  obtain ⟨V, HV, hcs⟩ := alone_cases x.fx x.ct x.ex x.ey x.mx x.my
  have hM := mem_nil w
  go_enter Tryz.func99, Tryz.ntmps99
  go_upto_region 11 with (first | (go_at_call 35; (refine (LC _).mono ?_); rintro e W1 ⟨rfl, hb⟩; replace hM := mem_below hM hb; clear hb) | (go_at_call 142; (with_reducible refine (SE _).mono ?_); rintro e W1 ⟨rfl, rfl⟩) | (go_at_call 143; (with_reducible refine (WA _).mono ?_); rintro e W1 ⟨rfl, hq⟩; replace hM := mem_q hM hq; clear hq) | (go_at_call 36; (with_reducible refine cb hM (P1 _) ?_); clear hM; intro W1 hM) | (go_at_call 36; (with_reducible refine cb hM (P2 _) ?_); clear hM; intro W1 hM) | ((with_reducible refine lX ?_); first | refine aL hM rfl rfl ?_ | refine aM hM rfl rfl ?_) | ((with_reducible refine sX ?_); refine aS hM rfl rfl rfl ?_; clear hM; intro W hM) | ((with_reducible refine bX ?_); refine aB hM rfl rfl ?_; clear hM; intro g W hM) | ((with_reducible refine zX ?_); refine aN hM rfl rfl ?_; clear hM; intro g W hM))
  try simp only [pS, pN, sA, sB, sC]
  go_cut [51] (fun s wx => s = .bool V ∧ ∃ gz gx, Mem w wx [(gz, [.int .i64 0, .int .i64 0], 29), (gx, x.cells, 39)])
  case first =>
    rcases hcs with ⟨hf, hc, rfl⟩ | ⟨hf, hc, m1, m2, rfl⟩ | ⟨hf, hc, m1, rfl⟩ | ⟨hf, hc, m1, m2, rfl⟩ | ⟨hf, e1, rfl⟩ | ⟨hf, e1, e2, rfl⟩ | ⟨hf, e1, e2, hc, rfl⟩ | ⟨hf, e1, e2, hc, m1, m2, rfl⟩ | ⟨hf, e1, e2, hc, m1, rfl⟩ | ⟨hf, e1, e2, hc, m1, m2, rfl⟩
    all_goals (
      try (have hf2 := str_ne hf; obtain ⟨f1, f2, f3⟩ := hf2; clear hf)
      try (have hc2 := str_ne hc; obtain ⟨c1, c2, c3⟩ := hc2; clear hc)
      go_wp2_with (first | ((with_reducible refine lX ?_); first | refine aL hM rfl rfl ?_ | refine aM hM rfl rfl ?_) | ((with_reducible refine sX ?_); refine aS hM rfl rfl rfl ?_; clear hM; intro W hM) | ((with_reducible refine bX ?_); refine aB hM rfl rfl ?_; clear hM; intro g W hM) | ((with_reducible refine zX ?_); refine aN hM rfl rfl ?_; clear hM; intro g W hM))
      all_goals first
        | (go_meet; exact ⟨rfl, _, _, hM⟩; done)
        | (exfalso; simp_all; done))
  case rest =>
  clear hM
  obtain ⟨rfl, gz, gx, hM⟩ := hcut
  rcases V with _ | _
  · rw [if_neg (fun h => by have := HV.out.2 h; cases this)] at hR
    subst hR
    go_wp2_with fail
    go_ret
    exact ⟨ret_int HT.out.symm, hM.below⟩
  · rw [if_pos (HV.out.1 rfl)] at hR
    subst hR
    go_wp2_with fail
    go_ret
    exact ⟨ret_int HT.out.symm, hM.below⟩
end Go.Proofs.YtjjdojokkmfbmaaGreatDoor
