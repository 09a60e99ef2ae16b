/-
  Chapter 25 as plain functions, second part: climbs, arcs, Resolve; bounds. No program.
-/
import Derived.Test.YtjjdojokkmfbmaaGreatDoorMLaws
import Derived.Test.YtjjdojokkmfbmaaGreatDoorMPlain
import Derived.Test.YtjjdojokkmfbmaaGreatDoorMResP
import Derived.ProofKit
namespace Go.Proofs.YtjjdojokkmfbmaaGreatDoor
set_option linter.unusedVariables false
theorem isq_le (n : Nat) : isq n ≤ n := by
  have h := (isq_spec n).1
  rcases Nat.eq_zero_or_pos (isq n) with e | e
  · omega
  · exact Nat.le_trans (Nat.le_mul_of_pos_right _ e) h
theorem lenF_bd (n s : Int) : -(n.natAbs : Int) ≤ lenF n s ∧ lenF n s ≤ n.natAbs := by
  have hsq : isq (n * n / s).toNat ≤ n.natAbs := by
    apply Classical.byContradiction
    intro hh
    have h1 := (isq_spec (n * n / s).toNat).1
    have h2 : (n.natAbs + 1) * (n.natAbs + 1) ≤ isq (n * n / s).toNat * isq (n * n / s).toNat := Nat.mul_le_mul (by omega) (by omega)
    have h3 : (n * n / s).toNat ≤ n.natAbs * n.natAbs := by
      have e : n * n = ((n.natAbs * n.natAbs : Nat) : Int) := by rw [Int.natCast_mul]; exact (Int.natAbs_mul_self).symm
      have h4 : n * n / s ≤ n * n := by
        rw [e]
        exact Int.ediv_le_self _ (Int.natCast_nonneg _)
      rw [e] at h4 ⊢
      omega
    have h5 : (n.natAbs + 1) * (n.natAbs + 1) = n.natAbs * n.natAbs + 2 * n.natAbs + 1 := by grind
    omega
  unfold lenF
  split <;> omega
theorem pr_bd {a b k : Int} (ha : -k ≤ a ∧ a ≤ k) (hb : -k ≤ b ∧ b ≤ k) (hk : 0 ≤ k) : -(k * k) ≤ a * b ∧ a * b ≤ k * k := by
  have h : (a * b).natAbs ≤ k.natAbs * k.natAbs := by
    rw [Int.natAbs_mul]
    exact Nat.mul_le_mul (by omega) (by omega)
  have e : ((k.natAbs * k.natAbs : Nat) : Int) = k * k := by rw [Int.natCast_mul]; exact Int.natAbs_mul_self
  have h2 : ((a * b).natAbs : Int) ≤ k * k := by rw [← e]; omega
  omega
/-- offsets are no large numbers -/
theorem off_bd (ax ay bx b_y px py : Int) : (-100000000000000 ≤ (offF ax ay bx b_y px py).1 ∧ (offF ax ay bx b_y px py).1 ≤ 100000000000000) ∧ (-100000000000000 ≤ (offF ax ay bx b_y px py).2.1 ∧ (offF ax ay bx b_y px py).2.1 ≤ 100000000000000) := by
  unfold offF
  split
  · simp
  · rename_i hv
    split
    · simp
    · have hv2 : (vldB ax ay = true ∧ vldB bx b_y = true) ∧ vldB px py = true := by simpa using hv
      have h1 := (vldB_iff _ _).1 hv2.1.1
      have h2 := (vldB_iff _ _).1 hv2.1.2
      have h3 := (vldB_iff _ _).1 hv2.2
      have p1 := pr_bd (a := bx - ax) (b := py - ay) (k := 4000000) (by omega) (by omega) (by omega)
      have p2 := pr_bd (a := b_y - ay) (b := px - ax) (k := 4000000) (by omega) (by omega) (by omega)
      have p3 := pr_bd (a := bx - ax) (b := px - ax) (k := 4000000) (by omega) (by omega) (by omega)
      have p4 := pr_bd (a := b_y - ay) (b := py - ay) (k := 4000000) (by omega) (by omega) (by omega)
      have l1 := lenF_bd (-((bx - ax) * (py - ay) - (b_y - ay) * (px - ax))) (dist2 ax ay bx b_y)
      have l2 := lenF_bd ((bx - ax) * (px - ax) + (b_y - ay) * (py - ay)) (dist2 ax ay bx b_y)
      dsimp only
      generalize lenF (-((bx - ax) * (py - ay) - (b_y - ay) * (px - ax))) (dist2 ax ay bx b_y) = A at *
      generalize lenF ((bx - ax) * (px - ax) + (b_y - ay) * (py - ay)) (dist2 ax ay bx b_y) = B at *
      generalize (bx - ax) * (py - ay) = q1 at *
      generalize (b_y - ay) * (px - ax) = q2 at *
      generalize (bx - ax) * (px - ax) = q3 at *
      generalize (b_y - ay) * (py - ay) = q4 at *
      omega
/-- the length of a climb -/
theorem up_bd {n g : Int} (hn : 0 ≤ n) (hg : 1 ≤ g) : 0 ≤ rnd 1 n g ∧ rnd 1 n g ≤ n := by
  have h := rnd1_spec n g (by omega)
  generalize rnd 1 n g = r at *
  constructor
  · apply Classical.byContradiction
    intro hr
    have : r * g ≤ (-1) * g := Int.mul_le_mul_of_nonneg_right (by omega) (by omega)
    omega
  · apply Classical.byContradiction
    intro hr
    have h1 : n * g ≤ (r - 1) * g := Int.mul_le_mul_of_nonneg_right (by omega) (by omega)
    have h2 : n * 1 ≤ n * g := Int.mul_le_mul_of_nonneg_left hg hn
    omega
theorem muldiv_up {a b c : Int} (hn : 0 ≤ a * b) (hn2 : a * b ≤ 1000000000000) (hc : 1 ≤ c) : muldiv 1 a b c = (rnd 1 (a * b) c, 0) := by
  have h := up_bd hn hc
  unfold muldiv
  rw [if_neg (by omega), if_pos (by unfold in64; rw [decide_eq_true_iff]; omega)]
theorem climb_p {alt lo gr : Int} (h : alt < lo) (h1 : -200000 ≤ alt) (h2 : lo ≤ 6000000) (hg : 1 ≤ gr) : muldiv 1 ((lo - alt) * 6000) 1 gr = (climbN alt lo gr, 0) := by
  rw [muldiv_up (by omega) (by omega) hg]
  unfold climbN
  rw [if_pos h, Int.mul_one]
theorem climb_r {alt lo gr : Int} (h : alt < lo) (h1 : -200000 ≤ alt) (h2 : lo ≤ 6000000) (hg : 1 ≤ gr) : muldiv 1 (lo - alt) 6000 gr = (climbN alt lo gr, 0) := by
  rw [muldiv_up (by omega) (by omega) hg]
  unfold climbN
  rw [if_pos h]
theorem climbN_bd {alt lo gr : Int} (h1 : -200000 ≤ alt) (h2 : lo ≤ 6000000) (hg : 1 ≤ gr) : 0 ≤ climbN alt lo gr ∧ climbN alt lo gr ≤ 100000000000 := by
  unfold climbN
  split
  · have := up_bd (n := (lo - alt) * 6000) (g := gr) (by omega) hg
    omega
  · omega
/-- arcs around a center have five numbers -/
theorem around_form (ax ay cx cy bx b_y : Int) (right : Bool) : ∃ v0 v1 v2 v3 v4 e0 : Int, aroundF ax ay cx cy bx b_y right = ([v0, v1, v2, v3, v4], e0) ∧ 0 ≤ v2 ∧ v2 ≤ 6000000 := by
  unfold aroundF
  split
  · exact ⟨0, 0, 0, 0, 0, 1, rfl, by omega, by omega⟩
  · split
    · exact ⟨0, 0, 0, 0, 0, 10, rfl, by omega, by omega⟩
    · have h := distF_bd cx cy ax ay
      exact ⟨_, _, _, _, _, _, rfl, by omega, by omega⟩
/-- an RF or AF -/
def aroundT (fx fy : Int) (x : En) : Tk × Int :=
  if (aroundF fx fy x.mx x.my x.ex x.ey (decide (x.tn = 2))).2 ≠ 0 then (Tk.zero, (aroundF fx fy x.mx x.my x.ex x.ey (decide (x.tn = 2))).2) else
  match (aroundF fx fy x.mx x.my x.ex x.ey (decide (x.tn = 2))).1 with
  | [cx, cy, r, f, s] =>
    if r - x.rad > 60 ∨ r - x.rad < -60 then (Tk.zero, 10) else
    if (arcAt cx cy r f s 0).2.2.2 ≠ 0 then (Tk.zero, (arcAt cx cy r f s 0).2.2.2) else
    if (arcAt cx cy r f s (arcLen cx cy r f s)).2.2.2 ≠ 0 then (Tk.zero, (arcAt cx cy r f s (arcLen cx cy r f s)).2.2.2) else
    (⟨2, fx, fy, x.ex, x.ey, cx, cy, r, f, s, (arcAt cx cy r f s 0).2.2.1, (arcAt cx cy r f s (arcLen cx cy r f s)).2.2.1, arcLen cx cy r f s, 0, false⟩, 0)
  | _ => (Tk.zero, 0)
/-- an FM -/
def openT (ax ay c : Int) : Tk × Int := if (rayT ax ay c 300000).2 = 0 then ({ (rayT ax ay c 300000).1 with k := 4 }, 0) else rayT ax ay c 300000
def patternT (c : Int) (x : En) : Tk := ⟨3, x.ex, x.ey, x.ex, x.ey, 0, 0, 0, 0, 0, c, if x.ty = 17 then norm (x.crs + 64800000) else x.crs, 0, 0, false⟩
/-- the track of a leg that is sound -/
def legT (fx fy c alt : Int) (x y : En) (gr : Int) : Tk × Int :=
  if x.ty = 1 then (straightF x.ex x.ey x.ex x.ey c, 0) else
  if x.ty = 2 ∨ x.ty = 4 then (straightF fx fy x.ex x.ey c, 0) else
  if x.ty = 3 then toFixT fx fy c x else
  if x.ty = 5 ∨ x.ty = 6 then aroundT fx fy x else
  if x.ty = 7 then climbT fx fy alt x gr else
  if x.ty = 11 then climbT x.ex x.ey alt x gr else
  if x.ty = 12 then rayT x.ex x.ey x.crs x.dst else
  if x.ty = 13 then openT x.ex x.ey x.crs else
  if x.ty = 8 then toDistT fx fy x else
  if x.ty = 10 then toRadT fx fy x else
  if x.ty = 9 then interT fx fy x y else (patternT c x, 0)
def resolveT (fx fy c alt : Int) (x y : En) (spd bank oalt gr : Int) : Tk × Int :=
  if optE spd bank oalt gr ≠ 0 then (Tk.zero, optE spd bank oalt gr) else
  if x.gap = true then (Tk.zero, 17) else
  if legF x ≠ 0 then (Tk.zero, legF x) else
  if (vldB fx fy && vldB x.ex x.ey && vldB x.mx x.my) = false then (Tk.zero, 1) else
  if c < 0 ∨ c ≥ 129600000 ∨ alt < -200000 ∨ alt > 6000000 then (Tk.zero, 2) else legT fx fy c alt x y gr
theorem numE_ok {n lo hi : Int} {u : Bool} (h : numE n u lo hi = 0) : (u = true → lo ≤ n ∧ n ≤ hi) ∧ (u = false → n = 0) := by
  unfold numE at h
  rcases u with _ | _
  · refine ⟨(fun h => by cases h), fun _ => ?_⟩
    apply Classical.byContradiction
    intro hn
    rw [if_neg (by simp), if_neg hn] at h
    cases h
  · refine ⟨fun _ => ?_, (fun h => by cases h)⟩
    apply Classical.byContradiction
    intro hn
    rw [if_pos rfl, if_pos (by omega)] at h
    cases h
theorem numE_rng {n lo hi : Int} {u : Bool} (h : numE n u lo hi = 0) (hlo : lo ≤ 1) (hlo2 : 0 ≤ lo) (hhi : 1 ≤ hi) : 0 ≤ n ∧ n ≤ hi := by
  have h1 := numE_ok h
  rcases u with _ | _
  · have := h1.2 rfl
    omega
  · have := h1.1 rfl
    omega
/-- what a sound leg holds -/
theorem leg_ok {x : En} (h : legF x = 0) : (1 ≤ x.ty ∧ x.ty ≤ 17) ∧ (0 ≤ x.crs ∧ x.crs ≤ 129599999) ∧ (0 ≤ x.dst ∧ x.dst ≤ 2000000) ∧ (0 ≤ x.rad ∧ x.rad ≤ 2000000) ∧ (0 ≤ x.tht ∧ x.tht ≤ 129599999) ∧
    (-200000 ≤ x.lo ∧ x.lo ≤ x.hi ∧ x.hi ≤ 6000000) ∧ (useB x.ty 2 = true → x.tn = 1 ∨ x.tn = 2) := by
  have r : 1 ≤ x.ty ∧ x.ty ≤ 17 := by
    apply Classical.byContradiction
    intro hn
    unfold legF at h
    rw [if_pos (by omega)] at h
    cases h
  obtain ⟨r1, r2⟩ := r
  have a1 : (refE x.fx (useB x.ty 0) != 0) = false := by
    rcases hh : (refE x.fx (useB x.ty 0) != 0) with _ | _
    · rfl
    · have := legL1 r1 r2 hh
      exact absurd (this.symm.trans h) (bne_t hh)
  have a2 : (refE x.ct (useB x.ty 1) != 0) = false := by
    rcases hh : (refE x.ct (useB x.ty 1) != 0) with _ | _
    · rfl
    · have := legL2 r1 r2 a1 hh
      exact absurd (this.symm.trans h) (bne_t hh)
  have a3 : (if useB x.ty 2 then decide (x.tn = 1) || decide (x.tn = 2) else decide (x.tn = 0)) = true := by
    rcases hh : (if useB x.ty 2 then decide (x.tn = 1) || decide (x.tn = 2) else decide (x.tn = 0)) with _ | _
    · have := legL3 r1 r2 a1 a2 hh
      omega
    · rfl
  have a4 : (x.ov && !useB x.ty 3) = false := by
    rcases hh : (x.ov && !useB x.ty 3) with _ | _
    · rfl
    · have := legL4 r1 r2 a1 a2 a3 hh
      omega
  have a5 : (numE x.crs (useB x.ty 4) 0 129599999 != 0) = false := by
    rcases hh : (numE x.crs (useB x.ty 4) 0 129599999 != 0) with _ | _
    · rfl
    · have := legL5 r1 r2 a1 a2 a3 a4 hh
      exact absurd (this.symm.trans h) (bne_t hh)
  have a6 : (numE x.dst (useB x.ty 5) 1 2000000 != 0) = false := by
    rcases hh : (numE x.dst (useB x.ty 5) 1 2000000 != 0) with _ | _
    · rfl
    · have := legL6 r1 r2 a1 a2 a3 a4 a5 hh
      exact absurd (this.symm.trans h) (bne_t hh)
  have a7 : (numE x.rad (useB x.ty 6) 1 2000000 != 0) = false := by
    rcases hh : (numE x.rad (useB x.ty 6) 1 2000000 != 0) with _ | _
    · rfl
    · have := legL7 r1 r2 a1 a2 a3 a4 a5 a6 hh
      exact absurd (this.symm.trans h) (bne_t hh)
  have a8 : (numE x.tht (useB x.ty 7) 0 129599999 != 0) = false := by
    rcases hh : (numE x.tht (useB x.ty 7) 0 129599999 != 0) with _ | _
    · rfl
    · have := legL8 r1 r2 a1 a2 a3 a4 a5 a6 a7 hh
      exact absurd (this.symm.trans h) (bne_t hh)
  have a9 := legL9 r1 r2 a1 a2 a3 a4 a5 a6 a7 a8
  rw [h] at a9
  have z : ∀ {a : Int}, (a != 0) = false → a = 0 := fun h => by simpa using h
  refine ⟨⟨r1, r2⟩, numE_rng (z a5) (by omega) (by omega) (by omega), numE_rng (z a6) (by omega) (by omega) (by omega), numE_rng (z a7) (by omega) (by omega) (by omega), numE_rng (z a8) (by omega) (by omega) (by omega), ?_, ?_⟩
  · unfold altE at a9
    split at a9
    · cases a9
    · omega
  · intro hu
    rw [hu, if_pos rfl] at a3
    simpa using a3
theorem opt_ok {s b a g : Int} (h : optE s b a g = 0) : (1 ≤ s ∧ s ≤ 1000) ∧ (1 ≤ b ∧ b ≤ 3000) ∧ (-200000 ≤ a ∧ a ≤ 6000000) ∧ (1 ≤ g ∧ g ≤ 100000) := by
  unfold optE at h
  split at h
  · cases h
  · omega
end Go.Proofs.YtjjdojokkmfbmaaGreatDoor
