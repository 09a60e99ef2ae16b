/-
  The points at the distances where the elements of a built path meet are near their ends. No program.
-/
import Derived.Test.YtdlognnifmihnaaGreatDoorMPathOkB
import Derived.Test.YtdlognnifmihnaaGreatDoorMPathP
namespace Go.Proofs.YtdlognnifmihnaaGreatDoor
set_option linter.unusedVariables false
def QQ (ax ay bx b_y k : Int) : Prop := (ax - bx ≤ k ∧ bx - ax ≤ k) ∧ (ay - b_y ≤ k ∧ b_y - ay ≤ k)
theorem sj {p m : Int} (h : p * p < m * m) (hm : 0 ≤ m) : -m < p ∧ p < m := by
 constructor
 · rcases Int.lt_or_le (-m) p with h1 | h1
   · exact h1
   · have := Int.mul_le_mul (show m ≤ -p by omega) (show m ≤ -p by omega) hm (by omega)
     rw [Int.neg_mul_neg] at this
     omega
 · rcases Int.lt_or_le p m with h1 | h1
   · exact h1
   · have := Int.mul_le_mul h1 h1 hm (by omega)
     omega
theorem Wr {ax ay bx b_y : Int} (h1 : qf ax ay = true) (h2 : qf bx b_y = true) (h : 1 ≤ qJ ax ay bx b_y) : (-(qJ ax ay bx b_y) ≤ bx - ax ∧ bx - ax ≤ qJ ax ay bx b_y) ∧ (-(qJ ax ay bx b_y) ≤ b_y - ay ∧ b_y - ay ≤ qJ ax ay bx b_y) := by
 obtain ⟨a0, a1, a2, a3, a4⟩ := YE h1 h2 (by omega)
 generalize qJ ax ay bx b_y = r at *
 have p2 := zx (bx - ax)
 have q2 := zx (b_y - ay)
 have x := sj (p := bx - ax) (m := r + 1) (by omega) (by omega)
 have y := sj (p := b_y - ay) (m := r + 1) (by omega) (by omega)
 omega
theorem cC {ax ay bx b_y L : Int} (h1 : qf ax ay = true) (h2 : qf bx b_y = true) (hL : 1 ≤ L) (hL2 : L ≤ 60000000) (hd : L = qJ ax ay bx b_y) :
 QQ (ax + (qM 2 (bx - ax) 1 L).1) (ay + (qM 2 (b_y - ay) 1 L).1) ax ay 18 := by
 have v1 := Qt h1
 have v2 := Qt h2
 have g := Wr h1 h2 (by omega)
 rw [← hd] at g
 have u := (dq (d := bx - ax) (s := 1) (by omega) (by omega) hL hL hL2).2.1
 have v := (dq (d := b_y - ay) (s := 1) (by omega) (by omega) hL hL hL2).2.1
 have key : ∀ w d : Int, (-L ≤ 2 * (w * L - d * 1) ∧ 2 * (w * L - d * 1) ≤ L) → (-L ≤ d ∧ d ≤ L) → -2 ≤ w ∧ w ≤ 2 := by
  intro w d hw hd
  constructor
  · rcases Int.lt_or_le w (-2) with h | h
    · have := Int.mul_le_mul_of_nonneg_right (show w ≤ -3 by omega) (show 0 ≤ L by omega)
      omega
    · exact h
  · rcases Int.lt_or_le 2 w with h | h
    · have := Int.mul_le_mul_of_nonneg_right (show 3 ≤ w by omega) (show 0 ≤ L by omega)
      omega
    · exact h
 have k1 := key _ _ u g.1
 have k2 := key _ _ v g.2
 unfold QQ
 omega
theorem sr {n s : Int} (hn : 1 ≤ n) : 2 * (ba n s 1 * n) ≤ 2 * (s.natAbs : Int) + n ∧ 0 ≤ ba n s 1 := by
 unfold ba
 rw [if_pos (by omega)]
 have h := QC (1 * (s.natAbs : Int)) n (by omega)
 rw [show (n.natAbs : Int) = n from by omega] at h
 refine ⟨by omega, ?_⟩
 generalize jG 2 (1 * (s.natAbs : Int)) n = k at *
 rcases Int.lt_or_le k 0 with hk | hk
 · have := Int.mul_le_mul_of_nonneg_right (show k ≤ -1 by omega) (show 0 ≤ n by omega)
   omega
 · exact hk
theorem su {cx cy r f s ax ay : Int} (hB : yX cx cy r f s = true) (hn : 1 ≤ qA cx cy r f s) (h0 : (qI cx cy r f s 1).2.2.2 = 0)
 (hs : (ax - (cx + zQ r f) ≤ 12 ∧ cx + zQ r f - ax ≤ 12) ∧ (ay - (cy + zR r f) ≤ 12 ∧ cy + zR r f - ay ≤ 12)) : QQ (qI cx cy r f s 1).1 (qI cx cy r f s 1).2.1 ax ay 18 := by
 have hat := kG hB (by omega) hn h0
 rw [hat.1, hat.2]
 clear hat h0
 obtain ⟨b1, b2, b3, b4, b5, b6, b7⟩ := (vF _ _ _ _ _).1 hB
 have q := uh hB
 generalize qA cx cy r f s = n at *
 have hq := QC (r * (s.natAbs : Int)) 20626481 (by omega)
 rw [← q] at hq
 clear q
 have hw := sr (s := s) hn
 unfold jM
 generalize ba n s 1 = k at *
 obtain ⟨k, rfl⟩ : ∃ m : Nat, k = (m : Int) := ⟨k.toNat, by omega⟩
 have hp : 2 * (r * (k : Int)) ≤ 69879443 := by
  have m1 := Int.mul_le_mul_of_nonneg_left hw.1 (show 0 ≤ r by omega)
  have e1 : r * (2 * ((k : Int) * n)) = n * (2 * (r * k)) := by grind
  have e2 : r * (2 * (s.natAbs : Int) + n) = 2 * (r * s.natAbs) + r * n := by grind
  rw [e1, e2] at m1
  have m2 := Int.mul_le_mul_of_nonneg_right b3 (show 0 ≤ n by omega)
  refine Int.le_of_mul_le_mul_left (a := n) ?_ (by omega)
  generalize n * (2 * (r * (k : Int))) = z at *
  generalize r * (s.natAbs : Int) = y at *
  generalize r * n = x at *
  have e3 : n * 69879443 = 69879443 * n := Int.mul_comm _ _
  omega
 have hp0 : 0 ≤ r * (k : Int) := Int.mul_nonneg (by omega) (by omega)
 have fin : ∀ v : Int, -(84 * (k : Int)) ≤ v ∧ v ≤ 84 * k → -(3 * 1073741824) ≤ r * v ∧ r * v ≤ 3 * 1073741824 := fun v hv => by
  have a := Int.mul_le_mul_of_nonneg_left hv.1 (show 0 ≤ r by omega)
  have b := Int.mul_le_mul_of_nonneg_left hv.2 (show 0 ≤ r by omega)
  have e : r * (84 * (k : Int)) = 84 * (r * k) := by grind
  rw [Int.mul_neg, e] at a
  rw [e] at b
  omega
 have hl : (-(84 * (k : Int)) ≤ qV (zg f (zr s k)) - qV f ∧ qV (zg f (zr s k)) - qV f ≤ 84 * k) ∧ (-(84 * (k : Int)) ≤ qX (zg f (zr s k)) - qX f ∧ qX (zg f (zr s k)) - qX f ≤ 84 * k) := by
  unfold zr
  split
  · have e := JD (a := zg f (-(k : Int))) (b := f - k) (by rw [jD]; unfold norm; omega)
    rw [e.1, e.2]
    have l := GD k (f - k)
    rw [show f - k + (k : Int) = f by omega] at l
    omega
  · have e := JD (a := zg f (k : Int)) (b := f + k) (by rw [jD]; unfold norm; omega)
    rw [e.1, e.2]
    exact GD k f
 generalize zg f (zr s (k : Int)) = D at *
 have m1 := fin _ hl.1
 have m2 := fin _ hl.2
 rw [Int.mul_sub] at m1 m2
 unfold zQ zR at *
 have r1 := zO (r * qV D)
 have r2 := zO (r * qV f)
 have r3 := zO (r * qX D)
 have r4 := zO (r * qX f)
 clear hl fin hp hp0 hw hq
 generalize jG 2 (r * qV D) 1073741824 = k1 at *
 generalize jG 2 (r * qV f) 1073741824 = k2 at *
 generalize jG 2 (r * qX D) 1073741824 = k3 at *
 generalize jG 2 (r * qX f) 1073741824 = k4 at *
 generalize r * qV D = z1 at *
 generalize r * qV f = z2 at *
 generalize r * qX D = z3 at *
 generalize r * qX f = z4 at *
 unfold QQ
 omega
theorem sD {cx cy r f s al px py : Int} (h : uW cx cy r f s al px py = false) (h0 : (qI cx cy r f s al).2.2.2 = 0) : QQ (qI cx cy r f s al).1 (qI cx cy r f s al).2.1 px py 16 := by
 unfold uW ng at h
 rw [decide_eq_true h0, Bool.true_and] at h
 have h := of_decide_eq_false h
 unfold QQ
 generalize (qI cx cy r f s al).1 = u at *
 generalize (qI cx cy r f s al).2.1 = v at *
 omega
theorem sF {l : List El} {len s : Int} {k : Nat} {x : El} (hc : vX l len = 0) (hx : l[k]? = some x) (h1 : 1 ≤ s) (h2 : s ≤ x.L) : JS l len (jH (l.take k) + s) = Pv x s := by
 have ok := JR hc
 have hL := mX hc
 have b := Yd (k := k) hL
 have b2 := Yd (k := k + 1) hL
 rw [RJ hx] at b2
 unfold JS
 rw [if_neg (by simp [hc]), if_neg (by rw [ok.sum]; omega), VM hL h1, Tw hx, if_neg (by omega)]
theorem sG {l : List En} {act : Int} {d : Dw} (h : mC l act d) {k : Nat} {x : El} (hx : d.els[k]? = some x) (he : (JS d.els (jH d.els) (jH (d.els.take (k + 1)))).2.2.2 = 0) :
 QQ (JS d.els (jH d.els) (jH (d.els.take (k + 1)))).1 (JS d.els (jH d.els) (jH (d.els.take (k + 1)))).2.1 x.bx x.b_y 16 := by
 have hc := RV h
 have hm := List.mem_of_getElem? hx
 have ev := h.val.els x hm
 have en := h.near.all x hm
 rw [RJ hx, sF hc hx ev.pos (Int.le_refl _)] at he ⊢
 rcases hb : x.c with _ | _
 · have v1 := Qt ev.a
   have v2 := Qt ev.b
   unfold Pv
   rw [if_neg (by simp [hb]), Ye (by omega) ev.pos, Ye (by omega) ev.pos]
   unfold QQ
   dsimp only
   omega
 · unfold Pv at he ⊢
   rw [if_pos hb] at he ⊢
   have ea := (ev.arc hb).2
   rw [ea] at he ⊢
   exact sD (en hb ev.pos).2.1 he
theorem wA {l : List En} {act : Int} {d : Dw} (h : mC l act d) {k : Nat} {x : El} (hx : d.els[k]? = some x) (he : (JS d.els (jH d.els) (jH (d.els.take k) + 1)).2.2.2 = 0) :
 QQ (JS d.els (jH d.els) (jH (d.els.take k) + 1)).1 (JS d.els (jH d.els) (jH (d.els.take k) + 1)).2.1 x.ax x.ay 18 := by
 have hc := RV h
 have hm := List.mem_of_getElem? hx
 have ev := h.val.els x hm
 have en := h.near.all x hm
 have hL := mX hc x hm
 rw [sF hc hx (Int.le_refl 1) ev.pos] at he ⊢
 rcases hb : x.c with _ | _
 · unfold Pv
   rw [if_neg (by simp [hb])]
   exact cC ev.a ev.b ev.pos hL.2 (ev.line hb).1
 · unfold Pv at he ⊢
   rw [if_pos hb] at he ⊢
   have ea := ev.arc hb
   exact su ea.1 (by rw [← ea.2]; exact ev.pos) he (en hb ev.pos).2.2
end Go.Proofs.YtdlognnifmihnaaGreatDoor
