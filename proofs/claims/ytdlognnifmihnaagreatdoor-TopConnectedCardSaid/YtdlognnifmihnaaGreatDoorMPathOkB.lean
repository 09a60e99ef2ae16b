/-
  A path that is built has no error. No program.
-/
import Derived.Test.YtdlognnifmihnaaGreatDoorMBuildV
namespace Go.Proofs.YtdlognnifmihnaaGreatDoor
set_option linter.unusedVariables false
theorem Sa {x : El} (h : NN x) (hn : lS x) : x.err = 0 := by
 unfold El.err uX
 rw [h.a, h.b]
 simp only [Bool.and_self, Bool.not_true, Bool.false_eq_true, if_false]
 have hp := h.pos
 rcases hc : x.c with _ | _
 · simp only [Bool.false_eq_true, if_false]
   obtain ⟨h1, h2, h3, h4, h5, h6⟩ := h.line hc
   rw [if_neg (by omega), if_neg (by omega)]
 · simp only [if_true]
   obtain ⟨h1, h2⟩ := h.arc hc
   obtain ⟨n1, n2, _⟩ := hn hc hp
   rw [h1, n1, n2]
   simp only [Bool.not_true, Bool.false_eq_true, if_false, Bool.or_self]
   rw [if_neg (by omega)]
theorem RW {len : Int} : ∀ (l : List El) (f : Bool) (en bx b_y sum : Int), (∀ x ∈ l, x.err = 0) → (∀ x, l[0]? = some x → en ≤ x.n ∧ (f = true → x.g = false) ∧ (f = false → x.g = false → x.ax = bx ∧ x.ay = b_y)) →
 (∀ (i : Nat) (x y : El), l[i]? = some x → l[i + 1]? = some y → x.n ≤ y.n ∧ (y.g = false → y.ax = x.bx ∧ y.ay = x.b_y)) → len = sum + jH l → Qh len f en bx b_y sum l = 0
 | [], f, en, bx, b_y, sum, h1, h2, h3, h4 => by
   rw [Kd, if_pos (by rw [h4, Qi]; omega)]
 | x :: l, f, en, bx, b_y, sum, h1, h2, h3, h4 => by
   obtain ⟨a1, a2, a3⟩ := h2 x rfl
   rw [kC, if_neg (by rw [h1 x (.head _)]; simp), if_neg, if_neg]
   · refine RW l _ _ _ _ _ (fun y hy => h1 y (.tail _ hy)) (fun y hy => ?_) (fun i y z hy hz => h3 (i + 1) y z (by simpa using hy) (by simpa using hz)) (by rw [h4, yq]; omega)
     have := h3 0 x y rfl (by simpa using hy)
     exact ⟨this.1, (fun e => by cases e), fun _ => this.2⟩
   · rintro ⟨b1, b2, b3⟩
     exact b3 (a3 b1 b2)
   · rintro (b | ⟨b1, b2⟩)
     · omega
     · rw [a2 b1] at b2
       cases b2
theorem RZ {d : Dw} {k : Int} (h1 : uQ d) (h2 : bT d) (h3 : tk d k) (h4 : vU d) (h5 : xy (0 ≤ ·) d) (h6 : (d.els.length : Int) ≤ 500) : vX d.els (jH d.els) = 0 := by
 unfold vX
 rw [if_neg (by omega)]
 refine RW _ _ _ _ _ _ (fun x hx => Sa (h2.els x hx) (h4.all x hx)) (fun x hx => ⟨h5 x (List.mem_of_getElem? hx), fun _ => h1.head x hx, fun e => by cases e⟩) (fun i x y hx hy => ⟨h3.up i x y hx hy, h1.meet i x y hx hy⟩) (by omega)
theorem RV {l : List En} {act : Int} {d : Dw} (h : mC l act d) : vX d.els (jH d.els) = 0 := by
 obtain ⟨k, hk⟩ := h.ent
 refine RZ h.inv h.val hk h.near (fun a ha => ?_) h.len
 obtain ⟨j, x, e, _⟩ := h.num a ha
 omega
end Go.Proofs.YtdlognnifmihnaaGreatDoor
