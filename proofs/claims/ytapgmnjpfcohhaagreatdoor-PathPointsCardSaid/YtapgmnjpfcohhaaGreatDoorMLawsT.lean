/-
  The examples of chapter 12, reckoned; arcs that are split; bank angles. No program.
-/
import Derived.Test.YtapgmnjpfcohhaaGreatDoorMLaws
import Derived.Test.YtapgmnjpfcohhaaGreatDoorMPlain
import Derived.Test.YtapgmnjpfcohhaaGreatDoorMSeqP
namespace Go.Proofs.YtapgmnjpfcohhaaGreatDoor
set_option linter.unusedVariables false

theorem atan_right (m : Int) (h : 0 < m) : atan2F m 0 = 32400000 := by
  have := atan_x m h
  have e : ((m.natAbs : Nat) : Int) = m := by omega
  unfold atan2F atanQ
  rw [if_pos (by omega), if_pos (by omega), if_pos (by omega), e]
  rw [show (((0 : Int).natAbs : Nat) : Int) = 0 from rfl, this]
  rfl
theorem atan_ahead (m : Int) (h : 0 < m) : atan2F 0 m = 0 := by
  have := atan_x m h
  have e : ((m.natAbs : Nat) : Int) = m := by omega
  unfold atan2F atanQ
  rw [if_pos (by omega), if_pos (by omega), if_neg (by omega), e]
  rw [show (((0 : Int).natAbs : Nat) : Int) = 0 from rfl, this]
theorem isq_of (n r : Nat) (h1 : r * r ≤ n) (h2 : n < (r + 1) * (r + 1)) : ((isq n : Nat) : Int) = r := by rw [isq_eq h1 h2]
theorem dist_of {ax ay bx b_y : Int} (h : (vldB ax ay && vldB bx b_y) = true) (r : Nat) (h1 : r * r ≤ (dist2 ax ay bx b_y).toNat) (h2 : (dist2 ax ay bx b_y).toNat < (r + 1) * (r + 1)) : distF ax ay bx b_y = r := by
  unfold distF
  rw [h, if_pos rfl, isq_of _ r h1 h2]
/-! ### arcs that are split -/
/-! ### bank angles -/
end Go.Proofs.YtapgmnjpfcohhaaGreatDoor

/-
  What the laws of chapter 12 ask of the plain functions. No program.
-/
namespace Go.Proofs.YtapgmnjpfcohhaaGreatDoor
set_option linter.unusedVariables false

/-! ### points of arcs -/
/-! ### fly-by turns -/
/-! ### tangents -/
/-! ### arcs around a center -/
/-! ### fly-by turns, stage by stage -/
theorem course_off {ax ay bx b_y : Int} (h1 : vldB ax ay = true) (h2 : vldB bx b_y = true) (h : ¬ (ax = bx ∧ ay = b_y)) : courseF ax ay bx b_y = (atan2F (bx - ax) (b_y - ay), 0) := by
  unfold courseF
  rw [h1, h2, if_neg (by simp), if_neg h]
theorem fly_in {ax ay bx b_y cx cy r : Int} (h0 : vldB ax ay = true) (h1 : vldB bx b_y = true) (hc : vldB cx cy = true) (h2 : ¬ (r < 1 ∨ r > 8000000)) (h3 : ¬ (ax = bx ∧ ay = b_y)) (h4 : ¬ (bx = cx ∧ b_y = cy)) :
    flyF ax ay bx b_y cx cy r = flyGo bx b_y (courseF ax ay bx b_y).1 (courseF bx b_y cx cy).1 r (distF ax ay bx b_y) (distF bx b_y cx cy) := by
  rw [course_off h0 h1 h3, course_off h1 hc h4]
  unfold flyF
  rw [h0, h1, hc, if_neg (by simp), if_neg h2, if_neg (by omega)]
theorem flyGo_far {bx b_y x y r m n d : Int} (hd : d = diffF x y) (h : 54000000 < d.natAbs) : flyGo bx b_y x y r m n = (zeros10, 10) := by
  unfold flyGo; rw [← hd, if_pos h]
theorem flyGo_lead {bx b_y x y r m n d l : Int} (hd : d = diffF x y) (h : ¬ 54000000 < d.natAbs) (hl : l = leadF r d) (h2 : l > m ∨ l > n) : flyGo bx b_y x y r m n = (zeros10, 10) := by
  unfold flyGo; rw [← hd, ← hl, if_neg h, if_pos h2]
theorem flyGo_rest {bx b_y x y r m n d l sx sy e1 ex ey e2 kx ky e3 : Int} (hd : d = diffF x y) (h : ¬ 54000000 < d.natAbs) (hl : l = leadF r d) (h2 : ¬ (l > m ∨ l > n))
    (h3 : (sx, sy, e1) = rayF bx b_y (turnF x 64800000) l) (h4 : (ex, ey, e2) = rayF bx b_y y l) (h5 : (kx, ky, e3) = rayF sx sy (turnF x (sideOf d 32400000)) r) :
    flyGo bx b_y x y r m n = if e1 ≠ 0 then (zeros10, 2) else if e2 ≠ 0 then (zeros10, 2) else if e3 ≠ 0 then (zeros10, 2) else ([kx, ky, r, turnF x (-sideOf d 32400000), d, sx, sy, ex, ey, l], 0) := by
  unfold flyGo
  rw [← hd, ← hl, if_neg h, if_neg h2, ← h3, ← h4]
  simp only
  rw [← h5]
theorem lead_md {r d l : Int} (hr : 1 ≤ r) (hr8 : r ≤ 8000000) (hd : d.natAbs ≤ 54000000) (hl : l = leadF r d) : muldiv 1 r (Sin ((d.natAbs : Int) / 2)) (Cos ((d.natAbs : Int) / 2)) = (l, 0) ∧ 0 ≤ l ∧ l ≤ 40000000 := by
  have a := leadF_spec (r := r) (d := d) (by omega) hd
  have b := leadF_hi (r := r) (d := d) (by omega) hr8 hd
  have hc := Cos_h_pos (h := (d.natAbs : Int) / 2) (by omega) (by omega)
  rw [← hl] at a b
  refine ⟨?_, a.2.2, b⟩
  unfold leadF at hl
  unfold muldiv
  rw [← hl, if_neg (by omega), if_pos]
  unfold in64
  exact decide_eq_true (by omega)
end Go.Proofs.YtapgmnjpfcohhaaGreatDoor
/-
  Distances along a path: nodes, and the ends of its elements. No program.
-/
namespace Go.Proofs.YtapgmnjpfcohhaaGreatDoor
set_option linter.unusedVariables false
set_option linter.unusedSimpArgs false
/-- the lengths of the elements up to an entry -/
def nodeS : List El → Int → Int
  | [], _ => 0
  | x :: l, e => (if x.n ≤ e then x.L else 0) + nodeS l e
def nodeF (l : List El) (len e : Int) : Int × Int := if ¬ chkF l len = 0 then (0, chkF l len) else (nodeS l e, 0)
theorem nodeS_cons (x : El) (l : List El) (e : Int) : nodeS (x :: l) e = (if x.n ≤ e then x.L else 0) + nodeS l e := rfl
theorem nodeS_take {l : List El} {k : Nat} {x : El} (hx : l[k]? = some x) (e : Int) : nodeS (l.take (k + 1)) e = nodeS (l.take k) e + (if x.n ≤ e then x.L else 0) := by
  induction l generalizing k with
  | nil => simp at hx
  | cons y l ih =>
    cases k with
    | zero =>
      simp at hx
      subst hx
      simp [nodeS]
    | succ k =>
      simp at hx
      rw [List.take_succ_cons, List.take_succ_cons, nodeS_cons, nodeS_cons, ih hx]
      omega
theorem nodeS_bd : ∀ {l : List El} (e : Int), (∀ x ∈ l, 1 ≤ x.L ∧ x.L ≤ 60000000) → 0 ≤ nodeS l e ∧ nodeS l e ≤ sumL l
  | [], e, h => by simp [nodeS, sumL]
  | x :: l, e, h => by
    have a := h x List.mem_cons_self
    have b := nodeS_bd (l := l) e (fun y hy => h y (List.mem_cons_of_mem _ hy))
    rw [nodeS_cons, sumL_cons]
    split <;> omega
theorem nodeS_mono : ∀ {l : List El} {e f : Int}, e ≤ f → (∀ x ∈ l, 1 ≤ x.L ∧ x.L ≤ 60000000) → nodeS l e ≤ nodeS l f
  | [], e, f, h0, h => by simp [nodeS]
  | x :: l, e, f, h0, h => by
    have a := h x List.mem_cons_self
    have b := nodeS_mono (l := l) h0 (fun y hy => h y (List.mem_cons_of_mem _ hy))
    rw [nodeS_cons, nodeS_cons]
    split <;> split <;> omega
theorem nodeS_low : ∀ {l : List El} {e : Int}, (∀ x ∈ l, e < x.n) → nodeS l e = 0
  | [], e, h => rfl
  | x :: l, e, h => by
    have a := h x List.mem_cons_self
    rw [nodeS_cons, if_neg (by omega), nodeS_low (fun y hy => h y (List.mem_cons_of_mem _ hy))]
    rfl
theorem nodeS_high : ∀ {l : List El} {e : Int}, (∀ x ∈ l, x.n ≤ e) → nodeS l e = sumL l
  | [], e, h => rfl
  | x :: l, e, h => by
    have a := h x List.mem_cons_self
    rw [nodeS_cons, if_pos a, sumL_cons, nodeS_high (fun y hy => h y (List.mem_cons_of_mem _ hy))]
theorem ok_lens {l : List El} {len : Int} (h : chkF l len = 0) : ∀ x ∈ l, 1 ≤ x.L ∧ x.L ≤ 60000000 := fun x hx => by
  obtain ⟨i, hi⟩ := List.getElem?_of_mem hx
  exact chkF_L h hi
theorem node_law {l : List El} {len : Int} (hc : chkF l len = 0) (hn : ∀ x ∈ l, x.n ≤ 9223372036854775807) (e : Int) :
    nodeS l (-1) = 0 ∧ nodeS l 9223372036854775807 = len ∧ 0 ≤ nodeS l e ∧ nodeS l e ≤ len ∧ nodeS l (e - 1) ≤ nodeS l e := by
  have ok := okPath hc
  have hL := ok_lens hc
  have b := nodeS_bd e hL
  refine ⟨nodeS_low fun x hx => ?_, ?_, b.1, by rw [ok.sum]; exact b.2, nodeS_mono (by omega) hL⟩
  · obtain ⟨i, hi⟩ := List.getElem?_of_mem hx
    have := ok.low i x hi
    omega
  · rw [nodeS_high hn, ok.sum]
/-! ### the ends of elements -/
theorem sumL_take {l : List El} {k : Nat} {x : El} (hx : l[k]? = some x) : sumL (l.take (k + 1)) = sumL (l.take k) + x.L := by
  induction l generalizing k with
  | nil => simp at hx
  | cons y l ih =>
    cases k with
    | zero =>
      simp at hx
      subst hx
      simp [sumL]
    | succ k =>
      simp at hx
      rw [List.take_succ_cons, List.take_succ_cons, sumL_cons, sumL_cons, ih hx]
      omega
theorem pickG_take : ∀ {l : List El} {k : Nat} {t : Int}, (∀ x ∈ l, 1 ≤ x.L ∧ x.L ≤ 60000000) → 1 ≤ t → pickG l (sumL (l.take k) + t) = pickG (l.drop k) t
  | [], k, t, h, ht => by simp [pickG]
  | x :: l, 0, t, h, ht => by rw [List.take_zero, sumL_nil, Int.zero_add, List.drop_zero]
  | x :: l, k + 1, t, h, ht => by
    have a := h x List.mem_cons_self
    have hl : ∀ y ∈ l, 1 ≤ y.L ∧ y.L ≤ 60000000 := fun y hy => h y (List.mem_cons_of_mem _ hy)
    have b := sumL_le (l := l.take k) (fun y hy => hl y (List.mem_of_mem_take hy))
    rw [List.take_succ_cons, sumL_cons, List.drop_succ_cons, pickG, if_pos (by omega), show x.L + sumL (l.take k) + t - x.L = sumL (l.take k) + t from by omega]
    exact pickG_take hl ht
theorem sum_take_le {l : List El} {k : Nat} (h : ∀ x ∈ l, 1 ≤ x.L ∧ x.L ≤ 60000000) : 0 ≤ sumL (l.take k) ∧ sumL (l.take k) ≤ sumL l := by
  induction l generalizing k with
  | nil => simp [sumL]
  | cons x l ih =>
    have a := h x List.mem_cons_self
    cases k with
    | zero =>
      have b := sumL_le h
      rw [List.take_zero, sumL_nil]
      omega
    | succ k =>
      have b := ih (k := k) (fun y hy => h y (List.mem_cons_of_mem _ hy))
      rw [List.take_succ_cons, sumL_cons, sumL_cons]
      omega
theorem muldiv_self {d L : Int} (hd : -4000000 ≤ d ∧ d ≤ 4000000) (hL : 1 ≤ L) : (muldiv 2 d L L).1 = d := by
  unfold muldiv
  rw [if_neg (by omega), Int.mul_comm, rnd2_mul d L (by omega)]
  have : in64 d = true := by unfold in64; exact decide_eq_true (by omega)
  rw [if_pos this]
/-- at the end of a straight element lies the point where it ends -/
theorem end_point {l : List El} {len : Int} (hc : chkF l len = 0) {k : Nat} {x : El} (hx : l[k]? = some x) (hs : x.c = false) : patF l len (sumL (l.take (k + 1))) = (x.bx, x.b_y, (courseF x.ax x.ay x.bx x.b_y).1, 0) := by
  have ok := okPath hc
  have hL := ok_lens hc
  have xL := chkF_L hc hx
  have b := sum_take_le (k := k + 1) hL
  have he := ok.err k x hx
  unfold El.err at he
  rw [hs] at he
  obtain ⟨v1, v2, v3, v4, v5⟩ := elem_straight he
  have b1 := vld_bds v1
  have b2 := vld_bds v2
  unfold patF
  rw [if_neg (by simp [hc]), if_neg (by rw [ok.sum]; omega), sumL_take hx, pickG_take hL v5, pickG_at hx, if_neg (by omega)]
  dsimp only
  unfold ptF
  rw [if_neg (by simp [hs]), muldiv_self (by omega) v5, muldiv_self (by omega) v5]
  have hcv : (courseF x.ax x.ay x.bx x.b_y).2 = 0 := by
    unfold courseF
    rw [v1, v2, if_neg (by simp), if_neg v3]
  rw [hcv, show x.ax + (x.bx - x.ax) = x.bx from by omega, show x.ay + (x.b_y - x.ay) = x.b_y from by omega]
end Go.Proofs.YtapgmnjpfcohhaaGreatDoor
/-
  The example of chapter 27, reckoned: its radius, its turn, its path. No program.
-/
namespace Go.Proofs.YtapgmnjpfcohhaaGreatDoor
set_option linter.unusedVariables false
theorem aw27_rad : radF 251 3000 = (9541, 0) := by decide +kernel
theorem aw27_d1 : distF 0 (-30000) 0 0 = 30000 := dist_of (by decide +kernel) 30000 (by decide +kernel) (by decide +kernel)
theorem aw27_d2 : distF 0 0 30000 0 = 30000 := dist_of (by decide +kernel) 30000 (by decide +kernel) (by decide +kernel)
theorem aw27_d3 : distF 0 (-30000) 0 (-9541) = 20459 := dist_of (by decide +kernel) 20459 (by decide +kernel) (by decide +kernel)
theorem aw27_d4 : distF 9541 0 30000 0 = 20459 := dist_of (by decide +kernel) 20459 (by decide +kernel) (by decide +kernel)
theorem aw27_c1 : courseF 0 (-30000) 0 0 = (0, 0) := by
  unfold courseF
  rw [show (0 : Int) - 0 = 0 from rfl, show (0 : Int) - -30000 = 30000 from rfl, atan_ahead 30000 (by decide)]
  decide +kernel
theorem aw27_c2 : courseF 0 0 30000 0 = (32400000, 0) := by
  unfold courseF
  rw [show (0 : Int) - 0 = 0 from rfl, show (30000 : Int) - 0 = 30000 from rfl, atan_right 30000 (by decide)]
  decide +kernel
theorem aw27_c3 : courseF 0 (-30000) 0 (-9541) = (0, 0) := by
  unfold courseF
  rw [show (0 : Int) - 0 = 0 from rfl, show (-9541 : Int) - -30000 = 20459 from rfl, atan_ahead 20459 (by decide)]
  decide +kernel
theorem aw27_lead : muldiv 1 9541 (Sin 16200000) (Cos 16200000) = (9541, 0) := by decide +kernel
theorem aw27_fly : flyF 0 (-30000) 0 0 30000 0 9541 = ([9541, -9541, 9541, 97200000, 32400000, 0, -9541, 9541, 0, 9541], 0) := by
  unfold flyF
  rw [aw27_d1, aw27_d2, show (0 : Int) - 0 = 0 from rfl, show (0 : Int) - -30000 = 30000 from rfl, show (30000 : Int) - 0 = 30000 from rfl, atan_right 30000 (by decide), atan_ahead 30000 (by decide)]
  decide +kernel
theorem aw27_len1 : arcLen 9541 (-9541) 9541 97200000 16200000 = 7493 := by decide +kernel
theorem aw27_len2 : arcLen 9541 (-9541) 9541 113400000 16200000 = 7493 := by decide +kernel
theorem aw27_mid : arcAt 9541 (-9541) 9541 97200000 16200000 7493 = (2794, -2794, 16200000, 0) := by decide +kernel
/-- the path of the example -/
def planL : List El :=
  [⟨false, 0, -30000, 0, -9541, 0, 0, 0, 0, 0, 20459, 1, false⟩, ⟨true, 0, -9541, 2794, -2794, 9541, -9541, 9541, 97200000, 16200000, 7493, 1, false⟩,
   ⟨true, 2794, -2794, 9541, 0, 9541, -9541, 9541, 113400000, 16200000, 7493, 2, false⟩, ⟨false, 9541, 0, 30000, 0, 0, 0, 0, 0, 0, 20459, 2, false⟩]
theorem pl0 : elemF false 0 (-30000) 0 (-9541) 0 0 0 0 0 20459 = 0 := by
  unfold elemF
  rw [show (vldB 0 (-30000) && vldB 0 (-9541)) = true from by decide +kernel, aw27_d3]
  rw [if_neg (by decide), if_neg (by decide), if_neg (by decide), if_neg (by decide)]
theorem pl3 : elemF false 9541 0 30000 0 0 0 0 0 0 20459 = 0 := by
  unfold elemF
  rw [show (vldB 9541 0 && vldB 30000 0) = true from by decide +kernel, aw27_d4]
  rw [if_neg (by decide), if_neg (by decide), if_neg (by decide), if_neg (by decide)]
theorem pl1 : elemF true 0 (-9541) 2794 (-2794) 9541 (-9541) 9541 97200000 16200000 7493 = 0 := by
  unfold elemF
  rw [show (vldB 0 (-9541) && vldB 2794 (-2794)) = true from by decide +kernel, show arcB 9541 (-9541) 9541 97200000 16200000 = true from by decide +kernel, aw27_len1,
    show awayB 9541 (-9541) 9541 97200000 16200000 0 0 (-9541) = false from by decide +kernel, show awayB 9541 (-9541) 9541 97200000 16200000 7493 2794 (-2794) = false from by decide +kernel]
  rw [if_neg (by decide), if_pos rfl, if_neg (by decide), if_neg (by decide), if_neg (by decide)]
theorem pl2 : elemF true 2794 (-2794) 9541 0 9541 (-9541) 9541 113400000 16200000 7493 = 0 := by
  unfold elemF
  rw [show (vldB 2794 (-2794) && vldB 9541 0) = true from by decide +kernel, show arcB 9541 (-9541) 9541 113400000 16200000 = true from by decide +kernel, aw27_len2,
    show awayB 9541 (-9541) 9541 113400000 16200000 0 2794 (-2794) = false from by decide +kernel, show awayB 9541 (-9541) 9541 113400000 16200000 7493 9541 0 = false from by decide +kernel]
  rw [if_neg (by decide), if_pos rfl, if_neg (by decide), if_neg (by decide), if_neg (by decide)]
theorem plan_chk : chkF planL 55904 = 0 := by
  unfold chkF planL
  rw [if_neg (by decide)]
  rw [chkG_cons, if_neg (fun h => h pl0), if_neg (by decide), if_neg (by decide)]
  rw [chkG_cons, if_neg (fun h => h pl1), if_neg (by decide), if_neg (by decide)]
  rw [chkG_cons, if_neg (fun h => h pl2), if_neg (by decide), if_neg (by decide)]
  rw [chkG_cons, if_neg (fun h => h pl3), if_neg (by decide), if_neg (by decide)]
  rw [chkG_nil, if_pos (by decide)]
theorem plan_node : nodeF planL 55904 1 = (27952, 0) := by
  unfold nodeF
  rw [if_neg (by rw [plan_chk]; decide)]
  rfl
theorem plan_at : patF planL 55904 10000 = (0, -20000, 0, 0) := by
  unfold patF
  rw [if_neg (by rw [plan_chk]; decide), if_neg (by decide)]
  show ptF ⟨false, 0, -30000, 0, -9541, 0, 0, 0, 0, 0, 20459, 1, false⟩ 10000 = _
  unfold ptF
  rw [if_neg (by decide)]
  dsimp only
  rw [aw27_c3]
  decide +kernel
end Go.Proofs.YtapgmnjpfcohhaaGreatDoor
