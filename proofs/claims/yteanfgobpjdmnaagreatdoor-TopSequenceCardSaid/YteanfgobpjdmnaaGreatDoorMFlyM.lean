/-
  turn.FlyBy for all arguments, by boxes.
-/
import Derived.Test.YteanfgobpjdmnaaGreatDoorMLineD
import Derived.Test.YteanfgobpjdmnaaGreatDoorMMemD
namespace Go.Proofs.YteanfgobpjdmnaaGreatDoor
open Go.RowKit
set_option linter.unusedVariables false
set_option linter.unusedSimpArgs false
theorem vI {v0 v1 v2 v3 v4 v5 v6 v7 v8 v9 e0 e : Int} (h : ([v0, v1, v2, v3, v4, v5, v6, v7, v8, v9], e0) = (jV, e)) :
 (v0 = 0 ∧ v1 = 0 ∧ v2 = 0 ∧ v3 = 0 ∧ v4 = 0) ∧ (v5 = 0 ∧ v6 = 0 ∧ v7 = 0 ∧ v8 = 0 ∧ v9 = 0) ∧ e0 = e := by
 simpa [jV, and_assoc] using h
theorem mK {v0 v1 v2 v3 v4 v5 v6 v7 v8 v9 e0 u0 u1 u2 u3 u4 u5 u6 u7 u8 u9 e : Int} (h : ([v0, v1, v2, v3, v4, v5, v6, v7, v8, v9], e0) = ([u0, u1, u2, u3, u4, u5, u6, u7, u8, u9], e)) :
 (v0 = u0 ∧ v1 = u1 ∧ v2 = u2 ∧ v3 = u3 ∧ v4 = u4) ∧ (v5 = u5 ∧ v6 = u6 ∧ v7 = u7 ∧ v8 = u8 ∧ v9 = u9) ∧ e0 = e := by
 simpa [and_assoc] using h
set_option maxRecDepth 100000 in
set_option maxHeartbeats 8000000 in
theorem WC (ax ay bx b_y cx cy r : Int) (w : World) (v0 v1 v2 v3 v4 v5 v6 v7 v8 v9 e0 : Int) (hR : Hid (([v0, v1, v2, v3, v4, v5, v6, v7, v8, v9], e0) = vV ax ay bx b_y cx cy r)) :
 Calls Tryz.prog 77 #[.agg #[.int .i64 ax, .int .i64 ay], .agg #[.int .i64 bx, .int .i64 b_y], .agg #[.int .i64 cx, .int .i64 cy], .int .i64 r] w fun e w' => e = .returned (.tuple #[.agg #[.int .i64 v0, .int .i64 v1, .int .i64 v2, .int .i64 v3, .int .i64 v4, .int .i64 v5, .int .i64 v6, .int .i64 v7, .int .i64 v8, .int .i64 v9], .int .i64 e0]) ∧ Below w.heap.size w w' := by
 have PV0 := fun W => qo ax ay W
 have PV1 := fun W => qo bx b_y W
 have PV2 := fun W => qo cx cy W
 have CA := fun W => yd ax ay bx b_y W
 have CB := fun W => yd bx b_y cx cy W
 have DA := fun W => jJ ax ay bx b_y W
 have DB := fun W => jJ bx b_y cx cy W
 obtain ⟨p0, hp0⟩ : ∃ p0, qf ax ay = p0 := ⟨_, rfl⟩
 obtain ⟨p1, RI⟩ : ∃ p1, qf bx b_y = p1 := ⟨_, rfl⟩
 obtain ⟨p2, hp2⟩ : ∃ p2, qf cx cy = p2 := ⟨_, rfl⟩
 rw [hp0] at PV0
 rw [RI] at PV1
 rw [hp2] at PV2
 have HP := hide (And.intro hp0 (And.intro RI hp2))
 clear hp0 RI hp2
 have hM := qB w
 go_enter Tryz.func77, Tryz.ntmps77
 go_upto_region 0 with fail
 try simp only [pS, pN, sA, sB, sC]
 go_cut [8, 6, 5, 4] (fun s8 s6 s5 s4 wx => ∃ gO gC gB gA : Nat, s8 = .pointer (some ⟨gO, 0, none⟩) ∧ s6 = .pointer (some ⟨gC, 0, none⟩) ∧ s5 = .pointer (some ⟨gB, 0, none⟩) ∧ s4 = .pointer (some ⟨gA, 0, none⟩) ∧ qQ w wx ((gO, [.int .i64 0, .int .i64 0, .int .i64 0, .int .i64 0, .int .i64 0, .int .i64 0, .int .i64 0, .int .i64 0, .int .i64 0, .int .i64 0], 134) :: [(gC, [.int .i64 cx, .int .i64 cy], 26), (gB, [.int .i64 bx, .int .i64 b_y], 26), (gA, [.int .i64 ax, .int .i64 ay], 26)]))
 case first =>
  go_wp2_with (first | ((with_reducible refine lX ?_); refine mL ?_) | ((with_reducible refine sX ?_); refine mS ?_; clear hM; intro W hM) | ((with_reducible refine bX ?_); refine mB ?_; clear hM; intro g W hM) | ((with_reducible refine zX ?_); refine mB ?_; clear hM; intro g W hM))
  all_goals
   go_meet
   exact ⟨_, _, _, _, rfl, rfl, rfl, rfl, hM⟩
 case rest =>
 clear hM
 obtain ⟨gO, gC, gB, gA, rfl, rfl, rfl, rfl, hM⟩ := hcut
 go_upto_region 1 with (first | (go_at_call 16; (with_reducible refine cb hM (PV0 _) ?_); clear hM; intro W1 hM) | (go_at_call 16; (with_reducible refine cb hM (PV1 _) ?_); clear hM; intro W1 hM) | (go_at_call 16; (with_reducible refine cb hM (PV2 _) ?_); clear hM; intro W1 hM) | ((with_reducible refine lX ?_); refine mL ?_) | ((with_reducible refine xZ ?_); refine gj (fun hg => ?_) (fun hg => ?_) <;> simp [go_sem, Region.wanted] at hg) | ((with_reducible refine sX ?_); refine mS ?_; clear hM; intro W hM) | ((with_reducible refine zX ?_); refine mB ?_; clear hM; intro g W hM))
 go_cut [31] (fun s wx => ∃ b, s = .bool b ∧ Hid (b = ((!p0 || !p1 || !p2))) ∧ qQ w wx ((gO, [.int .i64 0, .int .i64 0, .int .i64 0, .int .i64 0, .int .i64 0, .int .i64 0, .int .i64 0, .int .i64 0, .int .i64 0, .int .i64 0], 134) :: [(gC, [.int .i64 cx, .int .i64 cy], 26), (gB, [.int .i64 bx, .int .i64 b_y], 26), (gA, [.int .i64 ax, .int .i64 ay], 26)]))
 case first =>
  go_wp2_with (first | (go_at_call 16; (with_reducible refine cb hM (PV0 _) ?_); clear hM; intro W1 hM) | (go_at_call 16; (with_reducible refine cb hM (PV1 _) ?_); clear hM; intro W1 hM) | (go_at_call 16; (with_reducible refine cb hM (PV2 _) ?_); clear hM; intro W1 hM) | ((with_reducible refine lX ?_); refine mL ?_) | ((with_reducible refine xZ ?_); refine gj (fun hg => ?_) (fun hg => ?_) <;> simp [go_sem, Region.wanted] at hg) | ((with_reducible refine sX ?_); refine mS ?_; clear hM; intro W hM) | ((with_reducible refine zX ?_); refine mB ?_; clear hM; intro g W hM))
  all_goals
   go_meet
   exact ⟨_, rfl, hide (by (subst_vars; (repeat (first | rfl | (cases p0 <;> simp_all; done) | (cases p0 <;> cases p1 <;> cases p2 <;> simp_all; done))))), hM⟩
 case rest =>
 clear hM
 obtain ⟨b1, rfl, hb1, hM⟩ := hcut
 rcases hq1 : b1 with _ | _
 rotate_left 1
 · have hN : (qf ax ay && qf bx b_y && qf cx cy) = false := by
    obtain ⟨h1, h2, h3⟩ := HP.out
    rw [h1, h2, h3]
    have := hb1.out
    rw [hq1] at this
    revert this
    cases p0 <;> cases p1 <;> cases p2 <;> simp
   clear HP hb1
   subst hq1
   go_wp2_with (first | ((with_reducible refine lX ?_); refine mL ?_) | ((with_reducible refine sX ?_); refine mS ?_; clear hM; intro W hM) | ((with_reducible refine zX ?_); refine mB ?_; clear hM; intro g W hM))
   all_goals
    (obtain ⟨⟨rfl, rfl, rfl, rfl, rfl⟩, ⟨rfl, rfl, rfl, rfl, rfl⟩, rfl⟩ := vI (hR.out.trans (MF hN)); refine' qR hM rfl rfl Tryz.isAgg134 Tryz.sizeOf134 rfl rfl ?_ ?_ ⟨?_, hM.below⟩; rotate_left 2; (· repeat constructor); (· rfl); (· rfl))
 have hN : p0 = true ∧ p1 = true ∧ p2 = true := by
  have := hb1.out
  rw [hq1] at this
  revert this
  cases p0 <;> cases p1 <;> cases p2 <;> simp
 obtain ⟨rfl, rfl, rfl⟩ := hN
 have HV : Hid ((qf ax ay && qf bx b_y && qf cx cy) = true) := hide (by rw [HP.out.1, HP.out.2.1, HP.out.2.2]; rfl)
 subst hq1
 clear hb1 PV0 PV1 PV2
 by_cases hr3 : r < 1 ∨ r > 8000000
 · have hrr : (decide (r < 1) = true) ∨ (decide (r < 1) = false ∧ decide (8000000 < r) = true) := by
    by_cases h : r < 1
    · exact .inl (decide_eq_true h)
    · exact .inr ⟨decide_eq_false h, decide_eq_true (by omega)⟩
   have HR3 := hide hr3
   clear hr3
   rcases hrr with hrr | ⟨hrr, hrr2⟩
   all_goals
    go_wp2_with (first | ((with_reducible refine lX ?_); refine mL ?_) | ((with_reducible refine sX ?_); refine mS ?_; clear hM; intro W hM) | ((with_reducible refine zX ?_); refine mB ?_; clear hM; intro g W hM))
    all_goals
     (obtain ⟨⟨rfl, rfl, rfl, rfl, rfl⟩, ⟨rfl, rfl, rfl, rfl, rfl⟩, rfl⟩ := vI (hR.out.trans (WV HV.out HR3.out)); refine' qR hM rfl rfl Tryz.isAgg134 Tryz.sizeOf134 rfl rfl ?_ ?_ ⟨?_, hM.below⟩; rotate_left 2; (· repeat constructor); (· rfl); (· rfl))
 have hr1 : ¬ r < 1 := by omega
 have hr2 : ¬ r > 8000000 := by omega
 have HR3 := hide hr3
 obtain ⟨x, hx⟩ : ∃ x, (qF ax ay bx b_y).1 = x := ⟨_, rfl⟩
 obtain ⟨y, hy⟩ : ∃ y, (qF bx b_y cx cy).1 = y := ⟨_, rfl⟩
 obtain ⟨u, hu⟩ : ∃ u, (qF ax ay bx b_y).2 = u := ⟨_, rfl⟩
 obtain ⟨v, hv⟩ : ∃ v, (qF bx b_y cx cy).2 = v := ⟨_, rfl⟩
 obtain ⟨k1, hk1⟩ : ∃ k1, qJ ax ay bx b_y = k1 := ⟨_, rfl⟩
 obtain ⟨k2, hk2⟩ : ∃ k2, qJ bx b_y cx cy = k2 := ⟨_, rfl⟩
 rw [hx, hu] at CA
 rw [hy, hv] at CB
 rw [hk1] at DA
 rw [hk2] at DB
 have bx1 := Zf ax ay bx b_y
 have by1 := Zf bx b_y cx cy
 rw [hx] at bx1
 rw [hy] at by1
 have ix : qH x := by unfold qH; omega
 have iy : qH y := by unfold qH; omega
 have HC := hide (And.intro hx (And.intro hy (And.intro hu (And.intro hv (And.intro hk1 hk2)))))
 clear hx hy hu hv hk1 hk2
 have DF := fun W => Km x y ix iy W
 have db := ZX x y
 obtain ⟨D, hD⟩ : ∃ D, zw x y = D := ⟨_, rfl⟩
 rw [hD] at DF db
 have AB := fun W => kr D (by unfold qH; omega) (by omega) W
 obtain ⟨A, hA⟩ : ∃ A : Int, (D.natAbs : Int) = A := ⟨_, rfl⟩
 rw [hA] at AB
 have bA : 0 ≤ A ∧ A ≤ 64800000 := by omega
 have HD := hide (And.intro hD hA)
 clear hD hA
 by_cases hsm : u = 0 ∧ v = 0
 rotate_left 1
 · have hss : (u != 0) = true ∨ ((u != 0) = false ∧ (v != 0) = true) := by
    by_cases h : u = 0
    · exact .inr ⟨by simpa using h, by simp; try omega⟩
    · exact .inl (by simpa using h)
   have hS : Hid ((ax = bx ∧ ay = b_y) ∨ (bx = cx ∧ b_y = cy)) := hide (by
    obtain ⟨e1, e2, e3, e4, _⟩ := HC.out
    refine Classical.byContradiction fun hn => hsm ?_
    rw [← e3, ← e4, tZ HP.out.1 HP.out.2.1 (fun h => hn (.inl h)), tZ HP.out.2.1 HP.out.2.2 (fun h => hn (.inr h))]
    exact ⟨rfl, rfl⟩)
   clear hsm
   rcases hss with hss | ⟨hss, hss2⟩
   all_goals
    go_wp2_with (first | (go_at_call 8; (with_reducible refine cb hM (CA _) ?_); clear hM; intro W1 hM) | (go_at_call 8; (with_reducible refine cb hM (CB _) ?_); clear hM; intro W1 hM) | ((with_reducible refine lX ?_); refine mL ?_) | ((with_reducible refine sX ?_); refine mS ?_; clear hM; intro W hM) | ((with_reducible refine zX ?_); refine mB ?_; clear hM; intro g W hM))
    all_goals
     (obtain ⟨⟨rfl, rfl, rfl, rfl, rfl⟩, ⟨rfl, rfl, rfl, rfl, rfl⟩, rfl⟩ := vI (hR.out.trans (ar HV.out HR3.out hS.out)); refine' qR hM rfl rfl Tryz.isAgg134 Tryz.sizeOf134 rfl rfl ?_ ?_ ⟨?_, hM.below⟩; rotate_left 2; (· repeat constructor); (· rfl); (· rfl))
 obtain ⟨rfl, rfl⟩ := hsm
 have HF : Hid (([v0, v1, v2, v3, v4, v5, v6, v7, v8, v9], e0) = gi bx b_y x y r k1 k2) := hide (by
  obtain ⟨e1, e2, e3, e4, e5, e6⟩ := HC.out
  have n1 : ¬ (ax = bx ∧ ay = b_y) := fun h => by rw [Yc HP.out.1 HP.out.2.1 h] at e3; cases e3
  have n2 : ¬ (bx = cx ∧ b_y = cy) := fun h => by rw [Yc HP.out.2.1 HP.out.2.2 h] at e4; cases e4
  rw [hR.out, MG HP.out.1 HP.out.2.1 HP.out.2.2 HR3.out n1 n2, e1, e2, e5, e6])
 clear hR HC HV HP
 have hR := HF
 clear HF
 by_cases hfar : 54000000 < A
 · go_wp2_with (first | (go_at_call 8; (with_reducible refine cb hM (CA _) ?_); clear hM; intro W1 hM) | (go_at_call 8; (with_reducible refine cb hM (CB _) ?_); clear hM; intro W1 hM) | (go_at_call 74; (with_reducible refine (DF _).mono ?_); rintro e W1 ⟨rfl, rfl⟩) | (go_at_call 44; (with_reducible refine (AB _).mono ?_); rintro e W1 ⟨rfl, rfl⟩) | ((with_reducible refine lX ?_); refine mL ?_) | ((with_reducible refine sX ?_); refine mS ?_; clear hM; intro W hM) | ((with_reducible refine zX ?_); refine mB ?_; clear hM; intro g W hM))
   all_goals
    (obtain ⟨⟨rfl, rfl, rfl, rfl, rfl⟩, ⟨rfl, rfl, rfl, rfl, rfl⟩, rfl⟩ := vI (hR.out.trans (cY HD.out.1.symm (by have := HD.out.2; omega))); refine' qR hM rfl rfl Tryz.isAgg134 Tryz.sizeOf134 rfl rfl ?_ ?_ ⟨?_, hM.below⟩; rotate_left 2; (· repeat constructor); (· rfl); (· rfl))
 have hl := mQ (r := r) (d := D) (by omega) (by omega) (by have := HD.out.2; omega) rfl
 rw [HD.out.2] at hl
 have MU := fun W => xq r (qV (A / 2)) (qX (A / 2)) (by unfold qH; omega) (by have := kJ (A / 2); unfold qH; omega) (by have := uj (A / 2); unfold qH; omega) W
 have SN := fun W => QJ (A / 2) (by unfold qH; omega) W
 have CN := fun W => Jl (A / 2) (by unfold qH; omega) W
 rw [hl.1] at MU
 have lb := hl.2
 clear hl
 obtain ⟨l, hle⟩ : ∃ l, zT r D = l := ⟨_, rfl⟩
 rw [hle] at MU lb
 generalize qV (A / 2) = sn at *
 generalize qX (A / 2) = cs at *
 have HL := hide hle
 clear hle
 by_cases hlm : l > k1 ∨ l > k2
 · have hss : decide (k1 < l) = true ∨ (decide (k1 < l) = false ∧ decide (k2 < l) = true) := by
    by_cases h : k1 < l
    · exact .inl (decide_eq_true h)
    · exact .inr ⟨decide_eq_false h, decide_eq_true (by omega)⟩
   have HLM := hide hlm
   clear hlm
   rcases hss with hss | ⟨hss, hss2⟩
   all_goals
    go_wp2_with (first | (go_at_call 8; (with_reducible refine cb hM (CA _) ?_); clear hM; intro W1 hM) | (go_at_call 8; (with_reducible refine cb hM (CB _) ?_); clear hM; intro W1 hM) | (go_at_call 74; (with_reducible refine (DF _).mono ?_); rintro e W1 ⟨rfl, rfl⟩) | (go_at_call 44; (with_reducible refine (AB _).mono ?_); rintro e W1 ⟨rfl, rfl⟩) | (go_at_call 28; (with_reducible refine (SN _).mono ?_); rintro e W1 ⟨rfl, rfl⟩) | (go_at_call 29; (with_reducible refine (CN _).mono ?_); rintro e W1 ⟨rfl, rfl⟩) | (go_at_call 30; (with_reducible refine (MU _).mono ?_); rintro e W1 ⟨rfl, n1, rfl⟩; replace hM := zK hM n1) | (go_at_call 32; (with_reducible refine cb hM (DA _) ?_); clear hM; intro W1 hM) | (go_at_call 32; (with_reducible refine cb hM (DB _) ?_); clear hM; intro W1 hM) | ((with_reducible refine lX ?_); refine mL ?_) | ((with_reducible refine sX ?_); refine mS ?_; clear hM; intro W hM) | ((with_reducible refine zX ?_); refine mB ?_; clear hM; intro g W hM))
    all_goals
     (obtain ⟨⟨rfl, rfl, rfl, rfl, rfl⟩, ⟨rfl, rfl, rfl, rfl, rfl⟩, rfl⟩ := vI (hR.out.trans (wL HD.out.1.symm (by have := HD.out.2; omega) HL.out.symm HLM.out)); refine' qR hM rfl rfl Tryz.isAgg134 Tryz.sizeOf134 rfl rfl ?_ ?_ ⟨?_, hM.below⟩; rotate_left 2; (· repeat constructor); (· rfl); (· rfl))
 have hlm1 : ¬ k1 < l := by omega
 have hlm2 : ¬ k2 < l := by omega
 have HLM := hide hlm
 clear hlm
 have OP := fun W => jI x ix W
 have SD := fun W => JV 0 0 r 0 D 32400000 (by decide) (by decide) W
 have qb : zr D 32400000 = 32400000 ∨ zr D 32400000 = -32400000 := by unfold zr; split <;> omega
 obtain ⟨q, hq⟩ : ∃ q, zr D 32400000 = q := ⟨_, rfl⟩
 rw [hq] at SD qb
 have TA := fun W => bQ x (-q) ix (by unfold qH; omega) W
 have TB := fun W => bQ x q ix (by unfold qH; omega) W
 have o1 := tC x 64800000
 have o2 := tC x q
 obtain ⟨sx, sy, e1, hr1'⟩ : ∃ sx sy e1, (sx, sy, e1) = zi bx b_y (zg x 64800000) l := ⟨_, _, _, rfl⟩
 obtain ⟨ex, ey, e2, hr2'⟩ : ∃ ex ey e2, (ex, ey, e2) = zi bx b_y y l := ⟨_, _, _, rfl⟩
 obtain ⟨kx, ky, e3, hr3'⟩ : ∃ kx ky e3, (kx, ky, e3) = zi sx sy (zg x q) r := ⟨_, _, _, rfl⟩
 have R1 := fun W => jp bx b_y (zg x 64800000) l (by unfold qH; omega) (by unfold qH; omega) W _ hr1'
 have R2 := fun W => jp bx b_y y l iy (by unfold qH; omega) W _ hr2'
 have R3 := fun W => jp sx sy (zg x q) r (by unfold qH; omega) (by unfold qH; omega) W _ hr3'
 have HF := hide (hR.out.trans (wM (kx := kx) (ky := ky) (e3 := e3) HD.out.1.symm (by have := HD.out.2; omega) HL.out.symm HLM.out hr1' hr2' (by rw [hq]; exact hr3')))
 rw [hq] at HF
 clear hR HLM HL HD hr1' hr2' hr3' hq o1 o2
 have hR := HF
 clear HF
 generalize zg x (-q) = t1 at *
 generalize zg x q = t2 at *
 generalize zg x 64800000 = t3 at *
 go_upto_region 19 with (first | (go_at_call 8; (with_reducible refine cb hM (CA _) ?_); clear hM; intro W1 hM) | (go_at_call 8; (with_reducible refine cb hM (CB _) ?_); clear hM; intro W1 hM) | (go_at_call 74; (with_reducible refine (DF _).mono ?_); rintro e W1 ⟨rfl, rfl⟩) | (go_at_call 44; (with_reducible refine (AB _).mono ?_); rintro e W1 ⟨rfl, rfl⟩) | (go_at_call 28; (with_reducible refine (SN _).mono ?_); rintro e W1 ⟨rfl, rfl⟩) | (go_at_call 29; (with_reducible refine (CN _).mono ?_); rintro e W1 ⟨rfl, rfl⟩) | (go_at_call 30; (with_reducible refine (MU _).mono ?_); rintro e W1 ⟨rfl, n1, rfl⟩; replace hM := zK hM n1) | (go_at_call 32; (with_reducible refine cb hM (DA _) ?_); clear hM; intro W1 hM) | (go_at_call 32; (with_reducible refine cb hM (DB _) ?_); clear hM; intro W1 hM) | (go_at_call 107; (with_reducible refine cb hM (SD _) ?_); clear hM; intro W1 hM) | (go_at_call 63; (with_reducible refine (TA _).mono ?_); rintro e W1 ⟨rfl, rfl⟩) | ((with_reducible refine lX ?_); refine mL ?_) | ((with_reducible refine sX ?_); refine mS ?_; clear hM; intro W hM) | ((with_reducible refine zX ?_); refine mB ?_; clear hM; intro g W hM))
 try simp only [pS, pN, sA, sB, sC]
 refine qW [(gB, [.int .i64 bx, .int .i64 b_y], 26)] hM (by kernel_rfl) ?_; (clear hM; intro W hM)
 refine rD 0 ?_
 refine rD 1 ?_
 refine rD 3 ?_
 refine dC 2 (fun K' hK' => ?_)
 go_wp2_with (first | (go_at_call 98; (with_reducible refine (OP _).mono ?_); rintro e W1 ⟨rfl, rfl⟩) | (go_at_call 70; (with_reducible refine cb hM (R1 _) ?_); clear hM; intro W1 hM))
 refine rK hK' hM ?_; clear hK' K'
 refine dC 4 (fun K' hK' => ?_)
 go_wp2_with (first | (go_at_call 98; (with_reducible refine (OP _).mono ?_); rintro e W1 ⟨rfl, rfl⟩) | (go_at_call 70; (with_reducible refine cb hM (R1 _) ?_); clear hM; intro W1 hM))
 refine rK hK' hM ?_; clear hK' K'
 refine rD 5 ?_
 refine rD 6 ?_
 refine rD 7 ?_
 refine rD 8 ?_
 refine dC 9 (fun K' hK' => ?_)
 refine oS hM ?_
 clear hM; intro W hM
 refine rK hK' hM ?_; clear hK' K'
 refine rD 10 ?_
 refine qE (by kernel_rfl) ?_
 by_cases hz1 : e1 = 0
 rotate_left 1
 · have hz1' : (e1 != 0) = true := by simpa using hz1
   obtain ⟨⟨rfl, rfl, rfl, rfl, rfl⟩, ⟨rfl, rfl, rfl, rfl, rfl⟩, rfl⟩ := vI (hR.out.trans (if_pos hz1))
   clear hz1
   go_wp2_with (first | ((with_reducible refine lX ?_); refine mL ?_) | ((with_reducible refine sX ?_); refine mS ?_; clear hM; intro W hM) | ((with_reducible refine zX ?_); refine mB ?_; clear hM; intro g W hM))
   all_goals
    (refine' qR hM rfl rfl Tryz.isAgg134 Tryz.sizeOf134 rfl rfl ?_ ?_ ⟨?_, hM.below⟩; rotate_left 2; (· repeat constructor); (· rfl); (· rfl))
 subst hz1
 by_cases hz2 : e2 = 0
 rotate_left 1
 · have hz2' : (e2 != 0) = true := by simpa using hz2
   obtain ⟨⟨rfl, rfl, rfl, rfl, rfl⟩, ⟨rfl, rfl, rfl, rfl, rfl⟩, rfl⟩ := vI (hR.out.trans ((if_neg (by simp)).trans (if_pos hz2)))
   clear hz2
   go_wp2_with (first | (go_at_call 70; (with_reducible refine cb hM (R2 _) ?_); clear hM; intro W1 hM) | ((with_reducible refine lX ?_); refine mL ?_) | ((with_reducible refine sX ?_); refine mS ?_; clear hM; intro W hM) | ((with_reducible refine zX ?_); refine mB ?_; clear hM; intro g W hM))
   all_goals
    (refine' qR hM rfl rfl Tryz.isAgg134 Tryz.sizeOf134 rfl rfl ?_ ?_ ⟨?_, hM.below⟩; rotate_left 2; (· repeat constructor); (· rfl); (· rfl))
 subst hz2
 go_upto_region 25 with (first | (go_at_call 70; (with_reducible refine cb hM (R2 _) ?_); clear hM; intro W1 hM) | ((with_reducible refine lX ?_); refine mL ?_) | ((with_reducible refine sX ?_); refine mS ?_; clear hM; intro W hM) | ((with_reducible refine zX ?_); refine mB ?_; clear hM; intro g W hM))
 try simp only [pS, pN, sA, sB, sC]
 refine qW [(gB, [.int .i64 bx, .int .i64 b_y], 26)] hM (by kernel_rfl) ?_; (clear hM; intro W hM)
 refine rD 0 ?_
 refine rD 2 ?_
 refine rD 3 ?_
 refine rD 5 ?_
 refine dT 1 4 (fun K' hK' => ?_) (fun K' hK' => ?_)
 ·
  first | refine oL hM ?_ | refine oM hM ?_
  refine rK hK' hM ?_; clear hK' K'
  refine dC 4 (fun K' hK' => ?_)
  go_wp2_with (first | (go_at_call 63; (with_reducible refine (TB _).mono ?_); rintro e W1 ⟨rfl, rfl⟩) | (go_at_call 70; (with_reducible refine cb hM (R3 _) ?_); clear hM; intro W1 hM))
  refine rK hK' hM ?_; clear hK' K'
  refine dC 6 (fun K' hK' => ?_)
  go_wp2_with (first | (go_at_call 63; (with_reducible refine (TB _).mono ?_); rintro e W1 ⟨rfl, rfl⟩) | (go_at_call 70; (with_reducible refine cb hM (R3 _) ?_); clear hM; intro W1 hM))
  refine rK hK' hM ?_; clear hK' K'
  refine rD 7 ?_
  refine rD 8 ?_
  refine rD 9 ?_
  refine rD 10 ?_
  refine rD 11 ?_
  refine dC 12 (fun K' hK' => ?_)
  refine oS hM ?_
  clear hM; intro W hM
  refine rK hK' hM ?_; clear hK' K'
  refine rD 13 ?_
  refine qE (by kernel_rfl) ?_
  by_cases hz3 : e3 = 0
  · subst hz3
    obtain ⟨⟨rfl, rfl, rfl, rfl, rfl⟩, ⟨rfl, rfl, rfl, rfl, rfl⟩, rfl⟩ := mK (hR.out.trans ((if_neg (by simp)).trans ((if_neg (by simp)).trans (if_neg (by simp)))))
    go_wp2_with (first | ((with_reducible refine lX ?_); refine mL ?_) | ((with_reducible refine sX ?_); refine mS ?_; clear hM; intro W hM) | ((with_reducible refine zX ?_); refine mB ?_; clear hM; intro g W hM))
    all_goals
     (refine' qR hM rfl rfl Tryz.isAgg134 Tryz.sizeOf134 rfl rfl ?_ ?_ ⟨?_, hM.below⟩; rotate_left 2; (· repeat constructor); (· rfl); (· rfl))
  · have hz3' : (e3 != 0) = true := by simpa using hz3
    obtain ⟨⟨rfl, rfl, rfl, rfl, rfl⟩, ⟨rfl, rfl, rfl, rfl, rfl⟩, rfl⟩ := vI (hR.out.trans ((if_neg (by simp)).trans ((if_neg (by simp)).trans (if_pos hz3))))
    clear hz3
    go_wp2_with (first | ((with_reducible refine lX ?_); refine mL ?_) | ((with_reducible refine sX ?_); refine mS ?_; clear hM; intro W hM) | ((with_reducible refine zX ?_); refine mB ?_; clear hM; intro g W hM))
    all_goals
     (refine' qR hM rfl rfl Tryz.isAgg134 Tryz.sizeOf134 rfl rfl ?_ ?_ ⟨?_, hM.below⟩; rotate_left 2; (· repeat constructor); (· rfl); (· rfl))
 ·
  go_wp2_with (first | (go_at_call 63; (with_reducible refine (TB _).mono ?_); rintro e W1 ⟨rfl, rfl⟩) | (go_at_call 70; (with_reducible refine cb hM (R3 _) ?_); clear hM; intro W1 hM))
  refine rK hK' hM ?_; clear hK' K'
  refine dC 1 (fun K' hK' => ?_)
  first | refine oL hM ?_ | refine oM hM ?_
  refine rK hK' hM ?_; clear hK' K'
  refine dC 6 (fun K' hK' => ?_)
  go_wp2_with (first | (go_at_call 63; (with_reducible refine (TB _).mono ?_); rintro e W1 ⟨rfl, rfl⟩) | (go_at_call 70; (with_reducible refine cb hM (R3 _) ?_); clear hM; intro W1 hM))
  refine rK hK' hM ?_; clear hK' K'
  refine rD 7 ?_
  refine rD 8 ?_
  refine rD 9 ?_
  refine rD 10 ?_
  refine rD 11 ?_
  refine dC 12 (fun K' hK' => ?_)
  refine oS hM ?_
  clear hM; intro W hM
  refine rK hK' hM ?_; clear hK' K'
  refine rD 13 ?_
  refine qE (by kernel_rfl) ?_
  by_cases hz3 : e3 = 0
  · subst hz3
    obtain ⟨⟨rfl, rfl, rfl, rfl, rfl⟩, ⟨rfl, rfl, rfl, rfl, rfl⟩, rfl⟩ := mK (hR.out.trans ((if_neg (by simp)).trans ((if_neg (by simp)).trans (if_neg (by simp)))))
    go_wp2_with (first | ((with_reducible refine lX ?_); refine mL ?_) | ((with_reducible refine sX ?_); refine mS ?_; clear hM; intro W hM) | ((with_reducible refine zX ?_); refine mB ?_; clear hM; intro g W hM))
    all_goals
     (refine' qR hM rfl rfl Tryz.isAgg134 Tryz.sizeOf134 rfl rfl ?_ ?_ ⟨?_, hM.below⟩; rotate_left 2; (· repeat constructor); (· rfl); (· rfl))
  · have hz3' : (e3 != 0) = true := by simpa using hz3
    obtain ⟨⟨rfl, rfl, rfl, rfl, rfl⟩, ⟨rfl, rfl, rfl, rfl, rfl⟩, rfl⟩ := vI (hR.out.trans ((if_neg (by simp)).trans ((if_neg (by simp)).trans (if_pos hz3))))
    clear hz3
    go_wp2_with (first | ((with_reducible refine lX ?_); refine mL ?_) | ((with_reducible refine sX ?_); refine mS ?_; clear hM; intro W hM) | ((with_reducible refine zX ?_); refine mB ?_; clear hM; intro g W hM))
    all_goals
     (refine' qR hM rfl rfl Tryz.isAgg134 Tryz.sizeOf134 rfl rfl ?_ ?_ ⟨?_, hM.below⟩; rotate_left 2; (· repeat constructor); (· rfl); (· rfl))
end Go.Proofs.YteanfgobpjdmnaaGreatDoor
