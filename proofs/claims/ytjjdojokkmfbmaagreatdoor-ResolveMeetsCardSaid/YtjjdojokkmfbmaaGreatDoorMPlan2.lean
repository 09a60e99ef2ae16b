/-
  plan.alone for all entries.
-/
import Derived.Test.YtjjdojokkmfbmaaGreatDoorMPlan1
import Derived.Test.YtjjdojokkmfbmaaGreatDoorMResD
import Derived.Test.YtjjdojokkmfbmaaGreatDoorMGeo
import Derived.Test.YtjjdojokkmfbmaaGreatDoorMEnIn
namespace Go.Proofs.YtjjdojokkmfbmaaGreatDoor
open Go.RowKit
set_option linter.unusedVariables false
set_option linter.unusedSimpArgs false
theorem str_ne {s : ByteArray} (h : s ≠ ⟨#[]⟩) : (s.toList = [] ↔ False) ∧ (s.toList == []) = false ∧ s.toList.isEmpty = false := by
  have hl : s.toList = [] ↔ False := by
    rw [Lib.toList_data]
    exact ⟨fun e => h (str_nil e), False.elim⟩
  refine ⟨hl, ?_, ?_⟩
  · rw [beq_eq_false_iff_ne]; exact fun e => hl.1 e
  · cases hq : s.toList with
    | nil => exact (hl.1 hq).elim
    | cons a b => rfl
theorem two_z (a b : Int) : ((a == 0) = true ∧ (b == 0) = true ∧ (a = 0 ∧ b = 0)) ∨ ((a == 0) = false ∧ ¬ (a = 0 ∧ b = 0)) ∨ ((a == 0) = true ∧ (b == 0) = false ∧ ¬ (a = 0 ∧ b = 0)) := by
  rcases h1 : (a == 0) with _ | _
  · exact .inr (.inl ⟨rfl, fun e => by rw [e.1] at h1; cases h1⟩)
  · rcases h2 : (b == 0) with _ | _
    · exact .inr (.inr ⟨rfl, rfl, fun e => by rw [e.2] at h2; cases h2⟩)
    · exact .inl ⟨rfl, rfl, by simpa using h1, by simpa using h2⟩
theorem alone_cases (fx ct : ByteArray) (a b c d : Int) : ∃ V : Bool, Hid (V = true ↔ ((fx = ⟨#[]⟩ ∧ ¬ (a = 0 ∧ b = 0)) ∨ (ct = ⟨#[]⟩ ∧ ¬ (c = 0 ∧ d = 0)))) ∧ ((fx ≠ ⟨#[]⟩ ∧ ct ≠ ⟨#[]⟩ ∧ V = false) ∨ (fx ≠ ⟨#[]⟩ ∧ ct = ⟨#[]⟩ ∧ (c == 0) = true ∧ (d == 0) = true ∧ V = false) ∨ (fx ≠ ⟨#[]⟩ ∧ ct = ⟨#[]⟩ ∧ (c == 0) = false ∧ V = true) ∨ (fx ≠ ⟨#[]⟩ ∧ ct = ⟨#[]⟩ ∧ (c == 0) = true ∧ (d == 0) = false ∧ V = true) ∨ (fx = ⟨#[]⟩ ∧ (a == 0) = false ∧ V = true) ∨ (fx = ⟨#[]⟩ ∧ (a == 0) = true ∧ (b == 0) = false ∧ V = true) ∨ (fx = ⟨#[]⟩ ∧ (a == 0) = true ∧ (b == 0) = true ∧ ct ≠ ⟨#[]⟩ ∧ V = false) ∨ (fx = ⟨#[]⟩ ∧ (a == 0) = true ∧ (b == 0) = true ∧ ct = ⟨#[]⟩ ∧ (c == 0) = true ∧ (d == 0) = true ∧ V = false) ∨ (fx = ⟨#[]⟩ ∧ (a == 0) = true ∧ (b == 0) = true ∧ ct = ⟨#[]⟩ ∧ (c == 0) = false ∧ V = true) ∨ (fx = ⟨#[]⟩ ∧ (a == 0) = true ∧ (b == 0) = true ∧ ct = ⟨#[]⟩ ∧ (c == 0) = true ∧ (d == 0) = false ∧ V = true)) := by
  by_cases hf : fx = ⟨#[]⟩ <;> by_cases hc : ct = ⟨#[]⟩ <;> rcases two_z a b with ⟨e1, e2, ez⟩ | ⟨e1, ez⟩ | ⟨e1, e2, ez⟩ <;> rcases two_z c d with ⟨m1, m2, mz⟩ | ⟨m1, mz⟩ | ⟨m1, m2, mz⟩
  all_goals first
    | exact ⟨false, hide (by simp [hf, hc, ez, mz]), .inl ⟨hf, hc, rfl⟩⟩
    | exact ⟨false, hide (by simp [hf, hc, ez, mz]), .inr (.inl ⟨hf, hc, m1, m2, rfl⟩)⟩
    | exact ⟨true, hide (by simp [hf, hc, ez, mz]), .inr (.inr (.inl ⟨hf, hc, m1, rfl⟩))⟩
    | exact ⟨true, hide (by simp [hf, hc, ez, mz]), .inr (.inr (.inr (.inl ⟨hf, hc, m1, m2, rfl⟩)))⟩
    | exact ⟨true, hide (by simp [hf, hc, ez, mz]), .inr (.inr (.inr (.inr (.inl ⟨hf, e1, rfl⟩))))⟩
    | exact ⟨true, hide (by simp [hf, hc, ez, mz]), .inr (.inr (.inr (.inr (.inr (.inl ⟨hf, e1, e2, rfl⟩)))))⟩
    | exact ⟨false, hide (by simp [hf, hc, ez, mz]), .inr (.inr (.inr (.inr (.inr (.inr (.inl ⟨hf, e1, e2, hc, rfl⟩))))))⟩
    | exact ⟨false, hide (by simp [hf, hc, ez, mz]), .inr (.inr (.inr (.inr (.inr (.inr (.inr (.inl ⟨hf, e1, e2, hc, m1, m2, rfl⟩)))))))⟩
    | exact ⟨true, hide (by simp [hf, hc, ez, mz]), .inr (.inr (.inr (.inr (.inr (.inr (.inr (.inr (.inl ⟨hf, e1, e2, hc, m1, rfl⟩))))))))⟩
    | exact ⟨true, hide (by simp [hf, hc, ez, mz]), .inr (.inr (.inr (.inr (.inr (.inr (.inr (.inr (.inr (⟨hf, e1, e2, hc, m1, m2, rfl⟩)))))))))⟩
set_option maxRecDepth 100000 in
set_option maxHeartbeats 8000000 in
theorem alone_any (x : En) (hx : EnX x) (w : World) (hu : Hid (usesAt w)) :
    Calls Tryz.prog 53 #[.agg x.cells.toArray] w fun e w' => e = .returned (.int .i64 (aloneF x)) ∧ Below w.heap.size w w' := by
  have LC := fun W hW => lcheck_any x hx.w.leg W hW
  have SE := fun W => psection_any x.sec W
  have WA := fun W => way_any x.via hx.via W
  have P1 := fun W => pvalid_b x.ex x.ey W
  have P2 := fun W => pvalid_b x.mx x.my W
  obtain ⟨E0, hE⟩ : ∃ E0, legF x = E0 := ⟨_, rfl⟩
  obtain ⟨R, hR⟩ : ∃ R, aloneF x = R := ⟨_, rfl⟩
  have HT := hide hR
  unfold aloneF at hR
  rw [hE] at LC hR
  clear hE
  by_cases hL : E0 = 0
  rotate_left 1
  · rw [if_pos hL] at hR
    subst hR
    have hne : (E0 != 0) = true := by simpa using hL
    clear hL
    have hM := mem_nil w
    go_enter Tryz.func53, Tryz.ntmps53
    go_wp2_with (first
        | (go_at_call 23; (refine (LC _ (hide (usesAt_mem hM hu.out))).mono ?_); rintro e W1 ⟨rfl, hb⟩; replace hM := mem_below hM hb; clear hb)
        | (go_at_call 104; (with_reducible refine (SE _).mono ?_); rintro e W1 ⟨rfl, rfl⟩)
        | (go_at_call 105; (with_reducible refine (WA _).mono ?_); rintro e W1 ⟨rfl, hq⟩; replace hM := mem_q hM hq; clear hq)
        | (go_at_call 24; (with_reducible refine (P1 _).mono ?_); rintro e W1 ⟨rfl, hb⟩; replace hM := mem_below hM hb; clear hb)
        | (go_at_call 24; (with_reducible refine (P2 _).mono ?_); rintro e W1 ⟨rfl, hb⟩; replace hM := mem_below hM hb; clear hb)
        | ((with_reducible refine at_ldx ?_); refine' mg_load1 hM rfl rfl ?_ ?_ ?_ ?_ ?_; rotate_left 3; (· first | exact rfl | (go_simp; done)); (· repeat constructor); (· exact scT rfl); (· exact rfl))
        | ((with_reducible refine at_ldx ?_); refine' mg_load hM rfl rfl ?_ ?_ ?_ ?_ ?_ ?_; rotate_left 4; (· first | exact rfl | (go_simp; done)); (· repeat constructor); (· exact agT rfl); (· exact szT rfl); (· repeat constructor))
        | ((with_reducible refine at_stx ?_); refine' ms_store hM rfl rfl rfl ?_ ?_ ?_ ?_ ?_ ?_ ?_ ?_; rotate_left 6; (· constructor); (· repeat constructor); (· repeat constructor); (· repeat constructor); (· exact szT rfl); (· rfl); (· exact onecells rfl); (clear hM; intro W hM))
        | ((with_reducible refine at_bxx ?_); refine' mp_box hM rfl rfl ?_ ?_; rotate_left 1; (· constructor); (clear hM; intro g W hM))
        | ((with_reducible refine at_alx ?_); refine' mp_alloc hM rfl rfl ?_ rfl ?_; rotate_left 1; (· exact zoT rfl); (clear hM; intro g W hM)))
    all_goals first
      | (go_ret; exact ⟨ret_int HT.out.symm, hM.below⟩; done)
      | (exfalso; simp_all; done)
  subst hL
  rw [if_neg (by simp)] at hR
  by_cases hs : x.sec < 1 ∨ x.sec > 5
  · rw [if_pos hs] at hR
    subst hR
    rw [decide_eq_false (by omega)] at SE
    clear hs
    have hM := mem_nil w
    go_enter Tryz.func53, Tryz.ntmps53
    go_wp2_with (first
        | (go_at_call 23; (refine (LC _ (hide (usesAt_mem hM hu.out))).mono ?_); rintro e W1 ⟨rfl, hb⟩; replace hM := mem_below hM hb; clear hb)
        | (go_at_call 104; (with_reducible refine (SE _).mono ?_); rintro e W1 ⟨rfl, rfl⟩)
        | (go_at_call 105; (with_reducible refine (WA _).mono ?_); rintro e W1 ⟨rfl, hq⟩; replace hM := mem_q hM hq; clear hq)
        | (go_at_call 24; (with_reducible refine (P1 _).mono ?_); rintro e W1 ⟨rfl, hb⟩; replace hM := mem_below hM hb; clear hb)
        | (go_at_call 24; (with_reducible refine (P2 _).mono ?_); rintro e W1 ⟨rfl, hb⟩; replace hM := mem_below hM hb; clear hb)
        | ((with_reducible refine at_ldx ?_); refine' mg_load1 hM rfl rfl ?_ ?_ ?_ ?_ ?_; rotate_left 3; (· first | exact rfl | (go_simp; done)); (· repeat constructor); (· exact scT rfl); (· exact rfl))
        | ((with_reducible refine at_ldx ?_); refine' mg_load hM rfl rfl ?_ ?_ ?_ ?_ ?_ ?_; rotate_left 4; (· first | exact rfl | (go_simp; done)); (· repeat constructor); (· exact agT rfl); (· exact szT rfl); (· repeat constructor))
        | ((with_reducible refine at_stx ?_); refine' ms_store hM rfl rfl rfl ?_ ?_ ?_ ?_ ?_ ?_ ?_ ?_; rotate_left 6; (· constructor); (· repeat constructor); (· repeat constructor); (· repeat constructor); (· exact szT rfl); (· rfl); (· exact onecells rfl); (clear hM; intro W hM))
        | ((with_reducible refine at_bxx ?_); refine' mp_box hM rfl rfl ?_ ?_; rotate_left 1; (· constructor); (clear hM; intro g W hM))
        | ((with_reducible refine at_alx ?_); refine' mp_alloc hM rfl rfl ?_ rfl ?_; rotate_left 1; (· exact zoT rfl); (clear hM; intro g W hM)))
    all_goals first
      | (go_ret; exact ⟨ret_int HT.out.symm, hM.below⟩; done)
      | (exfalso; simp_all; done)
  rw [if_neg hs] at hR
  rw [decide_eq_true (by omega)] at SE
  clear hs
  rcases hw : wayB x.via with _ | _
  · rw [hw, if_pos rfl] at hR
    rw [hw] at WA
    subst hR
    clear hw
    have hM := mem_nil w
    go_enter Tryz.func53, Tryz.ntmps53
    go_wp2_with (first
        | (go_at_call 23; (refine (LC _ (hide (usesAt_mem hM hu.out))).mono ?_); rintro e W1 ⟨rfl, hb⟩; replace hM := mem_below hM hb; clear hb)
        | (go_at_call 104; (with_reducible refine (SE _).mono ?_); rintro e W1 ⟨rfl, rfl⟩)
        | (go_at_call 105; (with_reducible refine (WA _).mono ?_); rintro e W1 ⟨rfl, hq⟩; replace hM := mem_q hM hq; clear hq)
        | (go_at_call 24; (with_reducible refine (P1 _).mono ?_); rintro e W1 ⟨rfl, hb⟩; replace hM := mem_below hM hb; clear hb)
        | (go_at_call 24; (with_reducible refine (P2 _).mono ?_); rintro e W1 ⟨rfl, hb⟩; replace hM := mem_below hM hb; clear hb)
        | ((with_reducible refine at_ldx ?_); refine' mg_load1 hM rfl rfl ?_ ?_ ?_ ?_ ?_; rotate_left 3; (· first | exact rfl | (go_simp; done)); (· repeat constructor); (· exact scT rfl); (· exact rfl))
        | ((with_reducible refine at_ldx ?_); refine' mg_load hM rfl rfl ?_ ?_ ?_ ?_ ?_ ?_; rotate_left 4; (· first | exact rfl | (go_simp; done)); (· repeat constructor); (· exact agT rfl); (· exact szT rfl); (· repeat constructor))
        | ((with_reducible refine at_stx ?_); refine' ms_store hM rfl rfl rfl ?_ ?_ ?_ ?_ ?_ ?_ ?_ ?_; rotate_left 6; (· constructor); (· repeat constructor); (· repeat constructor); (· repeat constructor); (· exact szT rfl); (· rfl); (· exact onecells rfl); (clear hM; intro W hM))
        | ((with_reducible refine at_bxx ?_); refine' mp_box hM rfl rfl ?_ ?_; rotate_left 1; (· constructor); (clear hM; intro g W hM))
        | ((with_reducible refine at_alx ?_); refine' mp_alloc hM rfl rfl ?_ rfl ?_; rotate_left 1; (· exact zoT rfl); (clear hM; intro g W hM)))
    all_goals first
      | (go_ret; exact ⟨ret_int HT.out.symm, hM.below⟩; done)
      | (exfalso; simp_all; done)
  rw [hw, if_neg (by simp)] at hR
  rw [hw] at WA
  clear hw
  rcases v1 : vldB x.ex x.ey with _ | _
  · rw [v1, if_pos (by simp)] at hR
    rw [v1] at P1
    subst hR
    clear v1
    have hM := mem_nil w
    go_enter Tryz.func53, Tryz.ntmps53
    go_wp2_with (first
        | (go_at_call 23; (refine (LC _ (hide (usesAt_mem hM hu.out))).mono ?_); rintro e W1 ⟨rfl, hb⟩; replace hM := mem_below hM hb; clear hb)
        | (go_at_call 104; (with_reducible refine (SE _).mono ?_); rintro e W1 ⟨rfl, rfl⟩)
        | (go_at_call 105; (with_reducible refine (WA _).mono ?_); rintro e W1 ⟨rfl, hq⟩; replace hM := mem_q hM hq; clear hq)
        | (go_at_call 24; (with_reducible refine (P1 _).mono ?_); rintro e W1 ⟨rfl, hb⟩; replace hM := mem_below hM hb; clear hb)
        | (go_at_call 24; (with_reducible refine (P2 _).mono ?_); rintro e W1 ⟨rfl, hb⟩; replace hM := mem_below hM hb; clear hb)
        | ((with_reducible refine at_ldx ?_); refine' mg_load1 hM rfl rfl ?_ ?_ ?_ ?_ ?_; rotate_left 3; (· first | exact rfl | (go_simp; done)); (· repeat constructor); (· exact scT rfl); (· exact rfl))
        | ((with_reducible refine at_ldx ?_); refine' mg_load hM rfl rfl ?_ ?_ ?_ ?_ ?_ ?_; rotate_left 4; (· first | exact rfl | (go_simp; done)); (· repeat constructor); (· exact agT rfl); (· exact szT rfl); (· repeat constructor))
        | ((with_reducible refine at_stx ?_); refine' ms_store hM rfl rfl rfl ?_ ?_ ?_ ?_ ?_ ?_ ?_ ?_; rotate_left 6; (· constructor); (· repeat constructor); (· repeat constructor); (· repeat constructor); (· exact szT rfl); (· rfl); (· exact onecells rfl); (clear hM; intro W hM))
        | ((with_reducible refine at_bxx ?_); refine' mp_box hM rfl rfl ?_ ?_; rotate_left 1; (· constructor); (clear hM; intro g W hM))
        | ((with_reducible refine at_alx ?_); refine' mp_alloc hM rfl rfl ?_ rfl ?_; rotate_left 1; (· exact zoT rfl); (clear hM; intro g W hM)))
    all_goals first
      | (go_ret; exact ⟨ret_int HT.out.symm, hM.below⟩; done)
      | (exfalso; simp_all; done)
  rcases v2 : vldB x.mx x.my with _ | _
  · rw [v1, v2, if_pos (by simp)] at hR
    rw [v1] at P1
    rw [v2] at P2
    subst hR
    clear v1 v2
    have hM := mem_nil w
    go_enter Tryz.func53, Tryz.ntmps53
    go_wp2_with (first
        | (go_at_call 23; (refine (LC _ (hide (usesAt_mem hM hu.out))).mono ?_); rintro e W1 ⟨rfl, hb⟩; replace hM := mem_below hM hb; clear hb)
        | (go_at_call 104; (with_reducible refine (SE _).mono ?_); rintro e W1 ⟨rfl, rfl⟩)
        | (go_at_call 105; (with_reducible refine (WA _).mono ?_); rintro e W1 ⟨rfl, hq⟩; replace hM := mem_q hM hq; clear hq)
        | (go_at_call 24; (with_reducible refine (P1 _).mono ?_); rintro e W1 ⟨rfl, hb⟩; replace hM := mem_below hM hb; clear hb)
        | (go_at_call 24; (with_reducible refine (P2 _).mono ?_); rintro e W1 ⟨rfl, hb⟩; replace hM := mem_below hM hb; clear hb)
        | ((with_reducible refine at_ldx ?_); refine' mg_load1 hM rfl rfl ?_ ?_ ?_ ?_ ?_; rotate_left 3; (· first | exact rfl | (go_simp; done)); (· repeat constructor); (· exact scT rfl); (· exact rfl))
        | ((with_reducible refine at_ldx ?_); refine' mg_load hM rfl rfl ?_ ?_ ?_ ?_ ?_ ?_; rotate_left 4; (· first | exact rfl | (go_simp; done)); (· repeat constructor); (· exact agT rfl); (· exact szT rfl); (· repeat constructor))
        | ((with_reducible refine at_stx ?_); refine' ms_store hM rfl rfl rfl ?_ ?_ ?_ ?_ ?_ ?_ ?_ ?_; rotate_left 6; (· constructor); (· repeat constructor); (· repeat constructor); (· repeat constructor); (· exact szT rfl); (· rfl); (· exact onecells rfl); (clear hM; intro W hM))
        | ((with_reducible refine at_bxx ?_); refine' mp_box hM rfl rfl ?_ ?_; rotate_left 1; (· constructor); (clear hM; intro g W hM))
        | ((with_reducible refine at_alx ?_); refine' mp_alloc hM rfl rfl ?_ rfl ?_; rotate_left 1; (· exact zoT rfl); (clear hM; intro g W hM)))
    all_goals first
      | (go_ret; exact ⟨ret_int HT.out.symm, hM.below⟩; done)
      | (exfalso; simp_all; done)
  rw [v1, v2, if_neg (by simp)] at hR
  rw [v1] at P1
  rw [v2] at P2
  clear v1 v2
  obtain ⟨V, HV, hcs⟩ := alone_cases x.fx x.ct x.ex x.ey x.mx x.my
  have hM := mem_nil w
  go_enter Tryz.func53, Tryz.ntmps53
  go_upto_region 10 with (first
      | (go_at_call 23; (refine (LC _ (hide (usesAt_mem hM hu.out))).mono ?_); rintro e W1 ⟨rfl, hb⟩; replace hM := mem_below hM hb; clear hb)
      | (go_at_call 104; (with_reducible refine (SE _).mono ?_); rintro e W1 ⟨rfl, rfl⟩)
      | (go_at_call 105; (with_reducible refine (WA _).mono ?_); rintro e W1 ⟨rfl, hq⟩; replace hM := mem_q hM hq; clear hq)
      | (go_at_call 24; (with_reducible refine (P1 _).mono ?_); rintro e W1 ⟨rfl, hb⟩; replace hM := mem_below hM hb; clear hb)
      | (go_at_call 24; (with_reducible refine (P2 _).mono ?_); rintro e W1 ⟨rfl, hb⟩; replace hM := mem_below hM hb; clear hb)
      | ((with_reducible refine at_ldx ?_); refine' mg_load1 hM rfl rfl ?_ ?_ ?_ ?_ ?_; rotate_left 3; (· first | exact rfl | (go_simp; done)); (· repeat constructor); (· exact scT rfl); (· exact rfl))
      | ((with_reducible refine at_ldx ?_); refine' mg_load hM rfl rfl ?_ ?_ ?_ ?_ ?_ ?_; rotate_left 4; (· first | exact rfl | (go_simp; done)); (· repeat constructor); (· exact agT rfl); (· exact szT rfl); (· repeat constructor))
      | ((with_reducible refine at_stx ?_); refine' ms_store hM rfl rfl rfl ?_ ?_ ?_ ?_ ?_ ?_ ?_ ?_; rotate_left 6; (· constructor); (· repeat constructor); (· repeat constructor); (· repeat constructor); (· exact szT rfl); (· rfl); (· exact onecells rfl); (clear hM; intro W hM))
      | ((with_reducible refine at_bxx ?_); refine' mp_box hM rfl rfl ?_ ?_; rotate_left 1; (· constructor); (clear hM; intro g W hM))
      | ((with_reducible refine at_alx ?_); refine' mp_alloc hM rfl rfl ?_ rfl ?_; rotate_left 1; (· exact zoT rfl); (clear hM; intro g W hM)))
  go_cut [31] (fun s wx => s = .bool V ∧ Mem w wx [(g, x.cells, 39)])
  case first =>
    rcases hcs with ⟨hf, hc, rfl⟩ | ⟨hf, hc, m1, m2, rfl⟩ | ⟨hf, hc, m1, rfl⟩ | ⟨hf, hc, m1, m2, rfl⟩ | ⟨hf, e1, rfl⟩ | ⟨hf, e1, e2, rfl⟩ | ⟨hf, e1, e2, hc, rfl⟩ | ⟨hf, e1, e2, hc, m1, m2, rfl⟩ | ⟨hf, e1, e2, hc, m1, rfl⟩ | ⟨hf, e1, e2, hc, m1, m2, rfl⟩
    all_goals (
      try (have hf2 := str_ne hf; obtain ⟨f1, f2, f3⟩ := hf2; clear hf)
      try (have hc2 := str_ne hc; obtain ⟨c1, c2, c3⟩ := hc2; clear hc)
      go_wp2_with (first
      | ((with_reducible refine at_ldx ?_); refine' mg_load1 hM rfl rfl ?_ ?_ ?_ ?_ ?_; rotate_left 3; (· first | exact rfl | (go_simp; done)); (· repeat constructor); (· exact scT rfl); (· exact rfl))
      | ((with_reducible refine at_ldx ?_); refine' mg_load hM rfl rfl ?_ ?_ ?_ ?_ ?_ ?_; rotate_left 4; (· first | exact rfl | (go_simp; done)); (· repeat constructor); (· exact agT rfl); (· exact szT rfl); (· repeat constructor))
      | ((with_reducible refine at_stx ?_); refine' ms_store hM rfl rfl rfl ?_ ?_ ?_ ?_ ?_ ?_ ?_ ?_; rotate_left 6; (· constructor); (· repeat constructor); (· repeat constructor); (· repeat constructor); (· exact szT rfl); (· rfl); (· exact onecells rfl); (clear hM; intro W hM))
      | ((with_reducible refine at_bxx ?_); refine' mp_box hM rfl rfl ?_ ?_; rotate_left 1; (· constructor); (clear hM; intro g W hM))
      | ((with_reducible refine at_alx ?_); refine' mp_alloc hM rfl rfl ?_ rfl ?_; rotate_left 1; (· exact zoT rfl); (clear hM; intro g W hM)))
      all_goals first
        | (go_meet; exact ⟨rfl, hM⟩; done)
        | (exfalso; simp_all; done))
  case rest =>
  clear hM
  obtain ⟨rfl, hM⟩ := hcut
  rcases V with _ | _
  · rw [if_neg (fun h => by have := HV.out.2 h; cases this)] at hR
    subst hR
    go_wp2_with fail
    go_ret
    exact ⟨ret_int HT.out.symm, hM.below⟩
  · rw [if_pos (HV.out.1 rfl)] at hR
    subst hR
    go_wp2_with fail
    go_ret
    exact ⟨ret_int HT.out.symm, hM.below⟩
end Go.Proofs.YtjjdojokkmfbmaaGreatDoor
