/-
  The examples of chapter 12, reckoned; arcs that are split; bank angles. No program.
-/
import Derived.Test.YtdfkkknkiioghaaGreatMLaws
import Derived.Test.YtdfkkknkiioghaaGreatMPlain
namespace Go.Proofs.YtdfkkknkiioghaaGreat
set_option linter.unusedVariables false

theorem atanC_at {m n : Int} {c : Nat} (hm : 0 ≤ m) (hn : 0 ≤ n) (hc : c + 1 ≤ n45) (h : atP m n c = true) (h' : atP m n (c + 1) = false) : atanC m n = c := by
  unfold atanC
  rw [greatN_eq (atP m n) n45 c (by omega) (.inr h) ?_]
  intro d h1 h2
  rcases hd : atP m n d with _ | _
  · rfl
  · have := atP_down hm hn (c := c + 1) (d := d) h1 (by rw [n45_eq] at h2; exact h2) hd
    rw [h'] at this
    exact this.symm
theorem aw12_at : arcAt 0 0 6000 0 32400000 9425 = (6000, 0, 64800000, 0) := by decide +kernel
theorem aw12_len : arcLen 0 0 6000 0 32400000 = 9425 := by decide +kernel
theorem atan_right (m : Int) (h : 0 < m) : atan2F m 0 = 32400000 := by
  have := atan_x m h
  have e : ((m.natAbs : Nat) : Int) = m := by omega
  unfold atan2F atanQ
  rw [if_pos (by omega), if_pos (by omega), if_pos (by omega), e]
  rw [show (((0 : Int).natAbs : Nat) : Int) = 0 from rfl, this]
  rfl
theorem atan_ahead (m : Int) (h : 0 < m) : atan2F 0 m = 0 := by
  have := atan_x m h
  have e : ((m.natAbs : Nat) : Int) = m := by omega
  unfold atan2F atanQ
  rw [if_pos (by omega), if_pos (by omega), if_neg (by omega), e]
  rw [show (((0 : Int).natAbs : Nat) : Int) = 0 from rfl, this]
theorem isq_of (n r : Nat) (h1 : r * r ≤ n) (h2 : n < (r + 1) * (r + 1)) : ((isq n : Nat) : Int) = r := by rw [isq_eq h1 h2]
theorem dist_of {ax ay bx b_y : Int} (h : (vldB ax ay && vldB bx b_y) = true) (r : Nat) (h1 : r * r ≤ (dist2 ax ay bx b_y).toNat) (h2 : (dist2 ax ay bx b_y).toNat < (r + 1) * (r + 1)) : distF ax ay bx b_y = r := by
  unfold distF
  rw [h, if_pos rfl, isq_of _ r h1 h2]
theorem aw12_d1 : distF 0 0 3000 0 = 3000 := dist_of (by decide +kernel) 3000 (by decide +kernel) (by decide +kernel)
theorem aw12_d2 : distF 0 (-10000) 0 0 = 10000 := dist_of (by decide +kernel) 10000 (by decide +kernel) (by decide +kernel)
theorem aw12_d3 : distF 0 0 10000 0 = 10000 := dist_of (by decide +kernel) 10000 (by decide +kernel) (by decide +kernel)
theorem aw12_d4 : distF 0 0 0 100 = 100 := dist_of (by decide +kernel) 100 (by decide +kernel) (by decide +kernel)
theorem aw12_d5 : distF 0 0 100 0 = 100 := dist_of (by decide +kernel) 100 (by decide +kernel) (by decide +kernel)
theorem aw12_off : arcOff 0 0 6000 0 32400000 3000 0 = (3000, 9425, 0) := by
  unfold arcOff courseF
  rw [aw12_d1, show (3000 : Int) - 0 = 3000 from rfl, show (0 : Int) - 0 = 0 from rfl, atan_right 3000 (by decide)]
  decide +kernel
theorem aw12_fly : flyF 0 (-10000) 0 0 10000 0 1000 = ([1000, -1000, 1000, 97200000, 32400000, 0, -1000, 1000, 0, 1000], 0) := by
  unfold flyF
  rw [aw12_d2, aw12_d3, show (0 : Int) - 0 = 0 from rfl, show (0 : Int) - -10000 = 10000 from rfl, show (10000 : Int) - 0 = 10000 from rfl, atan_right 10000 (by decide), atan_ahead 10000 (by decide)]
  decide +kernel
theorem aw12_tanz : atan2F 4000 3000 = 19126837 := by
  have := atanC_at (m := 4000) (n := 3000) (c := 13273163) (by decide) (by decide) (by decide +kernel) (by decide +kernel) (by decide +kernel)
  unfold atan2F atanQ
  rw [show (((4000 : Int).natAbs : Nat) : Int) = 4000 from rfl, show (((3000 : Int).natAbs : Nat) : Int) = 3000 from rfl, this]
  rfl
theorem aw12_tanl : ((isq (dist2 0 0 0 5000 - 3000 * 3000).toNat : Nat) : Int) = 4000 := isq_of _ 4000 (by decide +kernel) (by decide +kernel)
theorem aw12_tan : tanF 0 0 3000 0 5000 true = (-2400, 1800, 0) := by
  unfold tanF tanDir
  rw [show (0 : Int) - 0 = 0 from rfl, show (5000 : Int) - 0 = 5000 from rfl, atan_ahead 5000 (by decide), aw12_tanl, aw12_tanz]
  decide +kernel
theorem aw12_around : aroundF 0 100 0 0 100 0 false = ([0, 0, 100, 0, -97200000], 0) := by
  unfold aroundF
  rw [aw12_d4, aw12_d5, show (0 : Int) - 0 = 0 from rfl, show (100 : Int) - 0 = 100 from rfl, atan_ahead 100 (by decide), atan_right 100 (by decide)]
  decide +kernel

/-! ### arcs that are split -/
def cutF (s c : Int) : Int := if (decide (c.tmod s < 0)) = (decide (s < 0)) then c.tmod s else 0
theorem cutF_bd {s c : Int} (hs : s ≠ 0) : (0 ≤ s → 0 ≤ cutF s c ∧ cutF s c ≤ s) ∧ (s < 0 → cutF s c ≤ 0 ∧ s ≤ cutF s c) := by
  have h1 := Int.natAbs_tmod c s
  have h2 : c.natAbs % s.natAbs < s.natAbs := Nat.mod_lt _ (by omega)
  unfold cutF
  generalize c.tmod s = t at *
  by_cases ht : t < 0
  · rw [decide_eq_true ht]
    by_cases hn : s < 0
    · rw [decide_eq_true hn, if_pos rfl]; omega
    · rw [decide_eq_false hn, if_neg (by simp)]; omega
  · rw [decide_eq_false ht]
    by_cases hn : s < 0
    · rw [decide_eq_true hn, if_neg (by simp)]; omega
    · rw [decide_eq_false hn, if_pos rfl]; omega
theorem splits {cx cy r f s u : Int} (h : arcB cx cy r f s = true) (hu : (0 ≤ s → 0 ≤ u ∧ u ≤ s) ∧ (s < 0 → u ≤ 0 ∧ s ≤ u)) :
    arcLen cx cy r f u + arcLen cx cy r f (s - u) - arcLen cx cy r f s ≤ 1 ∧ arcLen cx cy r f s - (arcLen cx cy r f u + arcLen cx cy r f (s - u)) ≤ 1 := by
  obtain ⟨h1, h2, h3, h4, h5, h6, h7⟩ := (arcB_iff _ _ _ _ _).1 h
  have b1 : arcB cx cy r f u = true := (arcB_iff _ _ _ _ _).2 ⟨h1, h2, h3, h4, h5, by omega, by omega⟩
  have b2 : arcB cx cy r f (s - u) = true := (arcB_iff _ _ _ _ _).2 ⟨h1, h2, h3, h4, h5, by omega, by omega⟩
  rw [arcLen_eq h, arcLen_eq b1, arcLen_eq b2]
  have e : (s.natAbs : Int) = (u.natAbs : Int) + ((s - u).natAbs : Int) := by omega
  rw [e, Int.mul_add]
  exact split_len _ _ _ rfl

/-! ### bank angles -/
def fitsF (v r b : Int) : Bool := decide ((radF v b).2 = 0 ∧ (radF v b).1 ≤ r)
theorem radF_code (v b : Int) : (radF v b).2 = 0 ∨ (radF v b).2 = 2 := by
  unfold radF
  split
  · split
    · exact .inl rfl
    · exact .inr rfl
  · exact .inr rfl
theorem radF_zero (v : Int) : radF v 0 = (0, 2) := by unfold radF; rw [if_neg (by omega)]
/-- what a search for the least bank angle has found -/
theorem bank_found {v r i : Int} (h0 : 0 ≤ i) (h1 : i ≤ 2999) (hm : fitsF v r 3000 = true) (hp : i = 2999 ∨ fitsF v r (i + 1) = true) (hq : i = 0 ∨ fitsF v r (i - 1 + 1) = false) :
    ((radF v (i + 1)).2 = 0 ∧ (radF v (i + 1)).1 ≤ r) ∧ ((radF v i).2 = 2 ∨ r < (radF v i).1) := by
  constructor
  · have : fitsF v r (i + 1) = true := by
      rcases hp with rfl | h
      · exact hm
      · exact h
    exact of_decide_eq_true this
  · rcases hq with rfl | h
    · rw [radF_zero]; exact .inl rfl
    · rw [show i - 1 + 1 = i from by omega] at h
      have h' := of_decide_eq_false h
      rcases radF_code v i with hc | hc
      · right
        apply Classical.byContradiction
        intro hn
        exact h' ⟨hc, by omega⟩
      · exact .inl hc
end Go.Proofs.YtdfkkknkiioghaaGreat

/-
  What the laws of chapter 12 ask of the plain functions. No program.
-/
namespace Go.Proofs.YtdfkkknkiioghaaGreat
set_option linter.unusedVariables false

/-! ### points of arcs -/
theorem arcAt_dom {cx cy r f s al : Int} (h : (arcAt cx cy r f s al).2.2.2 = 0) : arcB cx cy r f s = true ∧ 0 ≤ al ∧ al ≤ arcLen cx cy r f s := by
  unfold arcAt at h
  rcases hB : arcB cx cy r f s with _ | _
  · rw [hB, if_pos (by simp)] at h; exact absurd h (fun h => by cases h)
  rw [hB, if_neg (by simp)] at h
  by_cases h1 : al < 0 ∨ al > arcLen cx cy r f s
  · rw [if_pos h1] at h; exact absurd h (fun h => by cases h)
  exact ⟨rfl, by omega, by omega⟩
theorem code_eq {R : Int × Int × Int × Int} {c : Int} (h : R.2.2.2 = c) : (R.1, R.2.1, R.2.2.1, c) = R := by rw [← h]
theorem arcAt_codes (cx cy r f s al : Int) : (arcAt cx cy r f s al).2.2.2 = 0 ∨ (arcAt cx cy r f s al).2.2.2 = 1 ∨ (arcAt cx cy r f s al).2.2.2 = 2 := by
  unfold arcAt
  split
  · exact .inr (.inl rfl)
  · split
    · exact .inr (.inr rfl)
    · split
      · exact .inl rfl
      · exact .inr (.inr rfl)
/-- a point of an arc found again, over the values -/
theorem tracks_at {cx cy r f s al X Y C : Int} (h : (X, Y, C, 0) = arcAt cx cy r f s al) (hr : 100 ≤ r) (hs : -64800000 ≤ s) (hs2 : s ≤ 64800000) :
    ∃ o l, (o, l, 0) = arcOff cx cy r f s X Y ∧ (-2 ≤ o ∧ o ≤ 2) ∧ (l - al ≤ 4 ∧ al - l ≤ 4) ∧ 0 ≤ al ∧ al ≤ 60000000 := by
  have hE : (arcAt cx cy r f s al).2.2.2 = 0 := by rw [← h]
  obtain ⟨hB, h0, h1⟩ := arcAt_dom hE
  have T := tracks hB h0 h1 hE hr hs hs2
  have hb := arcLen_bd cx cy r f s
  rw [← h] at T
  obtain ⟨t1, t2, t3⟩ := T
  refine ⟨(arcOff cx cy r f s X Y).1, (arcOff cx cy r f s X Y).2.1, ?_, ?_, ?_, h0, by omega⟩
  · have t1' : (arcOff cx cy r f s X Y).2.2 = 0 := t1
    rw [← t1']
  · clear t1 t3
    simp only at t2
    generalize (arcOff cx cy r f s X Y).1 = o at *
    omega
  · clear t1 t2
    simp only at t3
    generalize (arcOff cx cy r f s X Y).2.1 = o at *
    omega

/-! ### fly-by turns -/
theorem zeros_ok {e : Int} : ∃ v0 v1 v2 v3 v4 v5 v6 v7 v8 v9 e0 : Int, ([v0, v1, v2, v3, v4, v5, v6, v7, v8, v9], e0) = (zeros10, e) := ⟨_, _, _, _, _, _, _, _, _, _, _, rfl⟩
theorem fly_cells (ax ay bx b_y cx cy r : Int) : ∃ v0 v1 v2 v3 v4 v5 v6 v7 v8 v9 e0 : Int, ([v0, v1, v2, v3, v4, v5, v6, v7, v8, v9], e0) = flyF ax ay bx b_y cx cy r := by
  unfold flyF
  split
  · exact zeros_ok
  split
  · exact zeros_ok
  split
  · exact zeros_ok
  unfold flyGo
  split
  · exact zeros_ok
  split
  · exact zeros_ok
  split
  · exact zeros_ok
  split
  · exact zeros_ok
  split
  · exact zeros_ok
  exact ⟨_, _, _, _, _, _, _, _, _, _, _, rfl⟩
theorem fly_err {ax ay bx b_y cx cy r v0 v1 v2 v3 v4 v5 v6 v7 v8 v9 e : Int} (h : ([v0, v1, v2, v3, v4, v5, v6, v7, v8, v9], e) = flyF ax ay bx b_y cx cy r) (he : e ≠ 0) :
    (v0 = 0 ∧ v1 = 0 ∧ v2 = 0 ∧ v3 = 0 ∧ v4 = 0) ∧ v5 = 0 ∧ v6 = 0 ∧ v7 = 0 ∧ v8 = 0 ∧ v9 = 0 := by
  have key : (flyF ax ay bx b_y cx cy r).2 ≠ 0 → (flyF ax ay bx b_y cx cy r).1 = zeros10 := by
    unfold flyF
    split
    · exact fun _ => rfl
    split
    · exact fun _ => rfl
    split
    · exact fun _ => rfl
    unfold flyGo
    split
    · exact fun _ => rfl
    split
    · exact fun _ => rfl
    split
    · exact fun _ => rfl
    split
    · exact fun _ => rfl
    split
    · exact fun _ => rfl
    · exact fun h => absurd rfl h
  rw [← h] at key
  have k := key he
  simpa [zeros10, and_assoc] using k
theorem fly_ok {ax ay bx b_y cx cy r v0 v1 v2 v3 v4 v5 v6 v7 v8 v9 : Int} (h : ([v0, v1, v2, v3, v4, v5, v6, v7, v8, v9], 0) = flyF ax ay bx b_y cx cy r) :
    arcB v0 v1 v2 v3 v4 = true ∧
    ((arcAt v0 v1 v2 v3 v4 0).2.2.2 = 0 → Ends (arcAt v0 v1 v2 v3 v4 0).1 (arcAt v0 v1 v2 v3 v4 0).2.1 v5 v6) ∧
    ((arcAt v0 v1 v2 v3 v4 (arcLen v0 v1 v2 v3 v4)).2.2.2 = 0 → Ends (arcAt v0 v1 v2 v3 v4 (arcLen v0 v1 v2 v3 v4)).1 (arcAt v0 v1 v2 v3 v4 (arcLen v0 v1 v2 v3 v4)).2.1 v7 v8) ∧
    vldB v5 v6 = true ∧ vldB v7 v8 = true := by
  have h0 : (flyF ax ay bx b_y cx cy r).2 = 0 := by rw [← h]
  unfold flyF at h h0
  by_cases h1 : (!(vldB ax ay && vldB bx b_y && vldB cx cy)) = true
  · rw [if_pos h1] at h0; exact (fst0 (by decide) h0).elim
  rw [if_neg h1] at h h0
  by_cases h2 : r < 1 ∨ r > 8000000
  · rw [if_pos h2] at h0; exact (fst0 (by decide) h0).elim
  rw [if_neg h2] at h h0
  by_cases h3 : (ax = bx ∧ ay = b_y) ∨ (bx = cx ∧ b_y = cy)
  · rw [if_pos h3] at h0; exact (fst0 (by decide) h0).elim
  rw [if_neg h3] at h h0
  obtain ⟨g1, g2, g3, X, Y, sx, sy, ex, ey, g4, q1, q2, q3, q4, q5, q6, q7, q8, q9⟩ := flyGo_ok h0
  rw [← h] at g4
  simp only [List.cons.injEq, and_true] at g4
  obtain ⟨rfl, rfl, rfl, rfl, rfl, rfl, rfl, rfl, rfl, rfl⟩ := g4
  have hm := distF_bd ax ay bx b_y
  have G := gaps_go (r := v2) (m := distF ax ay bx b_y) (by omega) (by omega) (by omega) rfl rfl g1 g2 q1 q2 q3 q4 q5 q6 q7 rfl
  exact ⟨G.1, G.2.1, G.2.2, q8, q9⟩
theorem ends_of {cx cy r f s al x y : Int} (hv : vldB x y = true) (h : (arcAt cx cy r f s al).2.2.2 = 0 → Ends (arcAt cx cy r f s al).1 (arcAt cx cy r f s al).2.1 x y) (hc : (arcAt cx cy r f s al).2.2.2 = 0 ∨ (arcAt cx cy r f s al).2.2.2 = 2) :
    ∃ X Y C, ((X, Y, C, 0) = arcAt cx cy r f s al ∧ (X - x ≤ 8 ∧ x - X ≤ 8) ∧ (Y - y ≤ 8 ∧ y - Y ≤ 8) ∧ (-2000000 ≤ x ∧ x ≤ 2000000) ∧ (-2000000 ≤ y ∧ y ≤ 2000000)) ∨ (X, Y, C, 2) = arcAt cx cy r f s al := by
  have hb : (-2000000 ≤ x ∧ x ≤ 2000000) ∧ -2000000 ≤ y ∧ y ≤ 2000000 := by
    unfold vldB at hv
    have := of_decide_eq_true hv
    omega
  refine ⟨(arcAt cx cy r f s al).1, (arcAt cx cy r f s al).2.1, (arcAt cx cy r f s al).2.2.1, ?_⟩
  rcases hc with hc | hc
  · left
    have E := h hc
    unfold Ends at E
    exact ⟨code_eq hc, E.1, E.2, hb⟩
  · right
    exact code_eq hc

/-! ### tangents -/
theorem tan_cells (cx cy r px py : Int) (right : Bool) : ∃ v0 v1 e0 : Int, (v0, v1, e0) = tanF cx cy r px py right := ⟨(tanF cx cy r px py right).1, (tanF cx cy r px py right).2.1, (tanF cx cy r px py right).2.2, rfl⟩
theorem touch_at {cx cy r px py X Y : Int} {right : Bool} (h : (X, Y, 0) = tanF cx cy r px py right) (hr : 100 ≤ r) (hD : r ≤ distF X Y px py) :
    ∃ o l, (o, l, 0) = offF X Y px py cx cy ∧ (o - sideR right r ≤ 8 ∧ sideR right r - o ≤ 8) ∧ (-8 ≤ l ∧ l ≤ 8) ∧ (distF cx cy X Y - r ≤ 2 ∧ r - distF cx cy X Y ≤ 2) ∧ r ≤ 8000000 := by
  have h0 : (tanF cx cy r px py right).2.2 = 0 := by rw [← h]
  have T := touches (tx := X) (ty := Y) h0 (by rw [← h]) (by rw [← h]) hr hD
  have b := (tan_ok h0).2.2.2.1
  obtain ⟨t1, t2, t3, t4⟩ := T
  refine ⟨(offF X Y px py cx cy).1, (offF X Y px py cx cy).2.1, ?_, t2, ?_, t4, b⟩
  · rw [← t1]
  · clear t1 t2 t4
    generalize (offF X Y px py cx cy).2.1 = o at *
    omega

/-! ### arcs around a center -/
theorem around_cells (ax ay cx cy bx b_y : Int) (right : Bool) : ∃ v0 v1 v2 v3 v4 e0 : Int, ([v0, v1, v2, v3, v4], e0) = aroundF ax ay cx cy bx b_y right := by
  unfold aroundF
  split
  · exact ⟨_, _, _, _, _, _, rfl⟩
  split
  · exact ⟨_, _, _, _, _, _, rfl⟩
  exact ⟨_, _, _, _, _, _, rfl⟩
theorem around_at {ax ay cx cy bx b_y v0 v1 v2 v3 v4 : Int} {right : Bool} (h : ([v0, v1, v2, v3, v4], 0) = aroundF ax ay cx cy bx b_y right) :
    (∃ X Y C, ((X, Y, C, 0) = arcAt v0 v1 v2 v3 v4 0 ∧ (X - ax ≤ 4 ∧ ax - X ≤ 4) ∧ (Y - ay ≤ 4 ∧ ay - Y ≤ 4)) ∨ (X, Y, C, 2) = arcAt v0 v1 v2 v3 v4 0) ∧
    (∃ X Y C, ((X, Y, C, 0) = arcAt v0 v1 v2 v3 v4 (arcLen v0 v1 v2 v3 v4) ∧ (X - bx ≤ 12 ∧ bx - X ≤ 12) ∧ (Y - b_y ≤ 12 ∧ b_y - Y ≤ 12)) ∨ (X, Y, C, 2) = arcAt v0 v1 v2 v3 v4 (arcLen v0 v1 v2 v3 v4)) ∧
    ((-2000000 ≤ ax ∧ ax ≤ 2000000) ∧ (-2000000 ≤ ay ∧ ay ≤ 2000000)) ∧ ((-2000000 ≤ bx ∧ bx ≤ 2000000) ∧ (-2000000 ≤ b_y ∧ b_y ≤ 2000000)) := by
  have h0 : (aroundF ax ay cx cy bx b_y right).2 = 0 := by rw [← h]
  obtain ⟨k1, k2, k3, _, _, _, k4⟩ := around_ok h0
  rw [← h] at k4
  simp only [List.cons.injEq, and_true] at k4
  obtain ⟨rfl, rfl, e2, e3, e4⟩ := k4
  have A := arounds h0 e2 e3 e4
  have hl := arcLen_bd v0 v1 v2 v3 v4
  have c0 := arcAt_code A.1 (Int.le_refl 0) hl.1
  have c1 := arcAt_code A.1 hl.1 (Int.le_refl _)
  have b1 : (-2000000 ≤ ax ∧ ax ≤ 2000000) ∧ -2000000 ≤ ay ∧ ay ≤ 2000000 := by
    have := of_decide_eq_true (by unfold vldB at k1; exact k1)
    omega
  have b2 : (-2000000 ≤ bx ∧ bx ≤ 2000000) ∧ -2000000 ≤ b_y ∧ b_y ≤ 2000000 := by
    have := of_decide_eq_true (by unfold vldB at k3; exact k3)
    omega
  refine ⟨⟨(arcAt v0 v1 v2 v3 v4 0).1, (arcAt v0 v1 v2 v3 v4 0).2.1, (arcAt v0 v1 v2 v3 v4 0).2.2.1, ?_⟩, ⟨(arcAt v0 v1 v2 v3 v4 (arcLen v0 v1 v2 v3 v4)).1, (arcAt v0 v1 v2 v3 v4 (arcLen v0 v1 v2 v3 v4)).2.1, (arcAt v0 v1 v2 v3 v4 (arcLen v0 v1 v2 v3 v4)).2.2.1, ?_⟩, b1, b2⟩
  · rcases c0 with c0 | c0
    · left
      have E := A.2.1 c0
      exact ⟨code_eq c0, E.1, E.2⟩
    · right
      exact code_eq c0
  · rcases c1 with c1 | c1
    · left
      have E := A.2.2 c1
      exact ⟨code_eq c1, E.1, E.2⟩
    · right
      exact code_eq c1

/-! ### fly-by turns, stage by stage -/
theorem fly_no {ax ay bx b_y cx cy r : Int} (h : (vldB ax ay && vldB bx b_y && vldB cx cy) = false) : flyF ax ay bx b_y cx cy r = (zeros10, 1) := by unfold flyF; rw [h]; rfl
theorem fly_rng {ax ay bx b_y cx cy r : Int} (h : (vldB ax ay && vldB bx b_y && vldB cx cy) = true) (h2 : r < 1 ∨ r > 8000000) : flyF ax ay bx b_y cx cy r = (zeros10, 2) := by unfold flyF; rw [h, if_neg (by simp), if_pos h2]
theorem fly_same {ax ay bx b_y cx cy r : Int} (h : (vldB ax ay && vldB bx b_y && vldB cx cy) = true) (h2 : ¬ (r < 1 ∨ r > 8000000)) (h3 : (ax = bx ∧ ay = b_y) ∨ (bx = cx ∧ b_y = cy)) : flyF ax ay bx b_y cx cy r = (zeros10, 10) := by
  unfold flyF; rw [h, if_neg (by simp), if_neg h2, if_pos h3]
theorem course_off {ax ay bx b_y : Int} (h1 : vldB ax ay = true) (h2 : vldB bx b_y = true) (h : ¬ (ax = bx ∧ ay = b_y)) : courseF ax ay bx b_y = (atan2F (bx - ax) (b_y - ay), 0) := by
  unfold courseF
  rw [h1, h2, if_neg (by simp), if_neg h]
theorem course_same {ax ay bx b_y : Int} (h1 : vldB ax ay = true) (h2 : vldB bx b_y = true) (h : ax = bx ∧ ay = b_y) : courseF ax ay bx b_y = (0, 10) := by
  unfold courseF
  rw [h1, h2, if_neg (by simp), if_pos h]
theorem fly_in {ax ay bx b_y cx cy r : Int} (h0 : vldB ax ay = true) (h1 : vldB bx b_y = true) (hc : vldB cx cy = true) (h2 : ¬ (r < 1 ∨ r > 8000000)) (h3 : ¬ (ax = bx ∧ ay = b_y)) (h4 : ¬ (bx = cx ∧ b_y = cy)) :
    flyF ax ay bx b_y cx cy r = flyGo bx b_y (courseF ax ay bx b_y).1 (courseF bx b_y cx cy).1 r (distF ax ay bx b_y) (distF bx b_y cx cy) := by
  rw [course_off h0 h1 h3, course_off h1 hc h4]
  unfold flyF
  rw [h0, h1, hc, if_neg (by simp), if_neg h2, if_neg (by omega)]
theorem flyGo_far {bx b_y x y r m n d : Int} (hd : d = diffF x y) (h : 54000000 < d.natAbs) : flyGo bx b_y x y r m n = (zeros10, 10) := by
  unfold flyGo; rw [← hd, if_pos h]
theorem flyGo_lead {bx b_y x y r m n d l : Int} (hd : d = diffF x y) (h : ¬ 54000000 < d.natAbs) (hl : l = leadF r d) (h2 : l > m ∨ l > n) : flyGo bx b_y x y r m n = (zeros10, 10) := by
  unfold flyGo; rw [← hd, ← hl, if_neg h, if_pos h2]
theorem flyGo_rest {bx b_y x y r m n d l sx sy e1 ex ey e2 kx ky e3 : Int} (hd : d = diffF x y) (h : ¬ 54000000 < d.natAbs) (hl : l = leadF r d) (h2 : ¬ (l > m ∨ l > n))
    (h3 : (sx, sy, e1) = rayF bx b_y (turnF x 64800000) l) (h4 : (ex, ey, e2) = rayF bx b_y y l) (h5 : (kx, ky, e3) = rayF sx sy (turnF x (sideOf d 32400000)) r) :
    flyGo bx b_y x y r m n = if e1 ≠ 0 then (zeros10, 2) else if e2 ≠ 0 then (zeros10, 2) else if e3 ≠ 0 then (zeros10, 2) else ([kx, ky, r, turnF x (-sideOf d 32400000), d, sx, sy, ex, ey, l], 0) := by
  unfold flyGo
  rw [← hd, ← hl, if_neg h, if_neg h2, ← h3, ← h4]
  simp only
  rw [← h5]
theorem lead_md {r d l : Int} (hr : 1 ≤ r) (hr8 : r ≤ 8000000) (hd : d.natAbs ≤ 54000000) (hl : l = leadF r d) : muldiv 1 r (Sin ((d.natAbs : Int) / 2)) (Cos ((d.natAbs : Int) / 2)) = (l, 0) ∧ 0 ≤ l ∧ l ≤ 40000000 := by
  have a := leadF_spec (r := r) (d := d) (by omega) hd
  have b := leadF_hi (r := r) (d := d) (by omega) hr8 hd
  have hc := Cos_h_pos (h := (d.natAbs : Int) / 2) (by omega) (by omega)
  rw [← hl] at a b
  refine ⟨?_, a.2.2, b⟩
  unfold leadF at hl
  unfold muldiv
  rw [← hl, if_neg (by omega), if_pos]
  unfold in64
  exact decide_eq_true (by omega)
end Go.Proofs.YtdfkkknkiioghaaGreat

