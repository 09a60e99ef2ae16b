/-
  The points of a pattern.
-/
import Derived.Test.YteanfgobpjdmnaaGreatDoorMHoldA
import Derived.Test.YteanfgobpjdmnaaGreatDoorMLineD
import Derived.Laws.EntriesVeiled
set_option maxRecDepth 100000
set_option maxHeartbeats 16000000
namespace Go.Proofs.YteanfgobpjdmnaaGreatDoor
open Go.RowKit
set_option linter.unusedVariables false
set_option linter.unusedSimpArgs false
def Gy (fx fy inb tn leg rad : Int) : List Value := if vY fx fy inb tn leg rad = 0 then (let s := kV fx fy inb tn leg rad; [.int .i64 fx, .int .i64 fy, .int .i64 s.x1, .int .i64 s.y1, .int .i64 s.x2, .int .i64 s.y2, .int .i64 s.x3, .int .i64 s.y3, .int .i64 s.cx, .int .i64 s.cy, .int .i64 s.dx, .int .i64 s.dy, .int .i64 (yt inb tn), .int .i64 rad, .int .i64 (2 * xz tn)]) else [.int .i64 0, .int .i64 0, .int .i64 0, .int .i64 0, .int .i64 0, .int .i64 0, .int .i64 0, .int .i64 0, .int .i64 0, .int .i64 0, .int .i64 0, .int .i64 0, .int .i64 0, .int .i64 0, .int .i64 0]
theorem kE {fx fy inb tn leg rad e : Int} (h : vY fx fy inb tn leg rad = e) (he : e ≠ 0) : Gy fx fy inb tn leg rad = [.int .i64 0, .int .i64 0, .int .i64 0, .int .i64 0, .int .i64 0, .int .i64 0, .int .i64 0, .int .i64 0, .int .i64 0, .int .i64 0, .int .i64 0, .int .i64 0, .int .i64 0, .int .i64 0, .int .i64 0] := by unfold Gy; rw [if_neg (by rw [h]; exact he)]
theorem wG {px py c d x y e : Int} (h : zi px py c d = (x, y, e)) : (-2000000 ≤ x ∧ x ≤ 2000000) ∧ (-2000000 ≤ y ∧ y ≤ 2000000) := by
 have hx : (zi px py c d).1 = x := by rw [h]
 have hy : (zi px py c d).2.1 = y := by rw [h]
 by_cases h0 : (zi px py c d).2.2 = 0
 · have := jo (yT h0)
   rw [hx, hy] at this
   omega
 · unfold zi at hx hy h0
   split at h0
   · rename_i h1; rw [if_pos h1] at hx hy; subst hx hy; decide
   · rename_i h1
     rw [if_neg h1] at hx hy
     split at h0
     · rename_i h2; rw [if_pos h2] at hx hy; subst hx hy; decide
     · rename_i h2
       rw [if_neg h2] at hx hy
       split at h0
       · exact absurd rfl h0
       · rename_i h3; rw [if_neg h3] at hx hy; subst hx hy; decide
theorem aa {fx fy inb tn leg rad : Int} (h : (qf fx fy && (decide (tn = 1) || decide (tn = 2))) = false) : vY fx fy inb tn leg rad = 1 := by unfold vY; rw [if_pos h]
theorem ae {fx fy inb tn leg rad : Int} (h : (qf fx fy && (decide (tn = 1) || decide (tn = 2))) = true) (h2 : inb < 0 ∨ inb ≥ 129600000 ∨ leg < 1 ∨ leg > 2000000 ∨ rad < 1 ∨ rad > 2000000) : vY fx fy inb tn leg rad = 2 := by unfold vY; rw [if_neg (by rw [h]; simp), if_pos h2]
theorem cR {fx fy inb tn leg rad cx cy e1 x1 y1 e2 x3 y3 e3 : Int} (h : (qf fx fy && (decide (tn = 1) || decide (tn = 2))) = true) (h2 : ¬ (inb < 0 ∨ inb ≥ 129600000 ∨ leg < 1 ∨ leg > 2000000 ∨ rad < 1 ∨ rad > 2000000))
 (r1 : zi fx fy (yt inb tn) rad = (cx, cy, e1)) (r2 : zi fx fy (yt inb tn) (2 * rad) = (x1, y1, e2)) (r3 : zi fx fy (inb + 64800000) leg = (x3, y3, e3)) :
 (vY fx fy inb tn leg rad = if (e1 = 0 ∧ e2 = 0 ∧ e3 = 0 ∧ qf (x1 + x3 - fx) (y1 + y3 - fy) = true ∧ qf (cx + x3 - fx) (cy + y3 - fy) = true) then 0 else 2) ∧
 kV fx fy inb tn leg rad = ⟨x1, y1, x1 + x3 - fx, y1 + y3 - fy, x3, y3, cx, cy, cx + x3 - fx, cy + y3 - fy⟩ := by
 refine ⟨?_, ?_⟩
 · unfold vY
   rw [if_neg (by rw [h]; simp), if_neg h2, r1, r2, r3]
 · unfold kV
   rw [r1, r2, r3]
theorem zY {w W : World} {L : List zz} {g i : Nat} {v : Value} {cs : List Value} {t : TypeId} (hM : qQ w W L) (hl : Lk L g cs t := by ((repeat constructor) <;> fail)) (hv : cs[i]? = some v := by rfl) : W.cell? ⟨g, i, none⟩ = some v := (hM.cell hl i).trans hv
theorem aO {ops : Array Oper} {Q : Exit → Act → World → Prop} {a : Act} {w W : World} {L : List zz} {rest : List Oper} {o : Oper} {v : Value} {ty : TypeId} {x : Operand} {g off : Nat} (hM : qQ w W L) (hgd : o.guard = none) (ho : o.op = .load ty x) (hc : w.cell? ⟨g, off, none⟩ = some v) (h : wpList Tryz.prog ops Q rest (a.put o.dst v) W)
 (hx : a.eval x = .pointer (some ⟨g, off, none⟩) := by rfl) (hg : JF.contains ty = true := by rfl) : wpList Tryz.prog ops Q (o :: rest) a W := zU hM hgd ho hx (mT hg) hc h
theorem uR (px py x3 y3 fx fy : Int) (gs gf : Nat) (w : World) (hp : (-2000000 ≤ px ∧ px ≤ 2000000) ∧ (-2000000 ≤ py ∧ py ≤ 2000000)) (h3 : (-2000000 ≤ x3 ∧ x3 ≤ 2000000) ∧ (-2000000 ≤ y3 ∧ y3 ≤ 2000000)) (hf : -2000000 ≤ fx ∧ fx ≤ 2000000 ∧ -2000000 ≤ fy ∧ fy ≤ 2000000)
 (c6 : w.cell? ⟨gs, 6, none⟩ = some (.int .i64 x3)) (c7 : w.cell? ⟨gs, 7, none⟩ = some (.int .i64 y3)) (f0 : w.cell? ⟨gf, 0, none⟩ = some (.int .i64 fx)) (f1 : w.cell? ⟨gf, 1, none⟩ = some (.int .i64 fy)) :
 Calls Tryz.prog 106 #[.agg #[.int .i64 px, .int .i64 py], .pointer (some ⟨gs, 0, none⟩), .pointer (some ⟨gf, 0, none⟩)] w fun e w' => e = .returned (.agg #[.int .i64 (px + x3 - fx), .int .i64 (py + y3 - fy)]) ∧ Below w.heap.size w w' := by
 have w1 := IntWalk.i64_in (px + x3) (by omega)
 have w2 := IntWalk.i64_in (px + x3 - fx) (by omega)
 have w3 := IntWalk.i64_in (py + y3) (by omega)
 have w4 := IntWalk.i64_in (py + y3 - fy) (by omega)
 have hM := qB w
 go_enter Tryz.func106, Tryz.ntmps106
 go_wp2_with (first | ((with_reducible refine lX ?_); refine aO hM rfl rfl c6 ?_) | ((with_reducible refine lX ?_); refine aO hM rfl rfl c7 ?_) | ((with_reducible refine lX ?_); refine aO hM rfl rfl f0 ?_) | ((with_reducible refine lX ?_); refine aO hM rfl rfl f1 ?_) | ((with_reducible refine lX ?_); refine mL ?_) | ((with_reducible refine sX ?_); refine mS ?_; clear hM; intro W hM) | ((with_reducible refine bX ?_); refine mB ?_; clear hM; intro g W hM) | ((with_reducible refine zX ?_); refine mB ?_; clear hM; intro g W hM))
 all_goals
  (refine' xa hM rfl rfl Tryz.isAgg26 Tryz.sizeOf26 rfl ?_ ?_ ⟨?_, hM.below⟩; rotate_left 2; (· repeat constructor); (· rfl); (· rfl))
theorem Vs (fx fy inb tn leg rad : Int) (w : World) :
 Calls Tryz.prog 73 #[.agg #[.int .i64 fx, .int .i64 fy], .int .i64 inb, .int .u8 tn, .int .i64 leg, .int .i64 rad] w fun e w' => e = .returned (.tuple #[.agg (Gy fx fy inb tn leg rad).toArray, .int .i64 (vY fx fy inb tn leg rad)]) ∧ Below w.heap.size w w' := by
 have PV := fun W => qo fx fy W
 obtain ⟨p0, hp0⟩ : ∃ p0, qf fx fy = p0 := ⟨_, rfl⟩
 rw [hp0] at PV
 by_cases ht : p0 = true ∧ (tn = 1 ∨ tn = 2)
 rotate_left 1
 · have HE : vY fx fy inb tn leg rad = 1 := aa (by
    rw [hp0]
    rcases hq : p0 with _ | _
    · rfl
    · have h1 : tn ≠ 1 := fun h => ht ⟨hq, .inl h⟩
      have h2 : tn ≠ 2 := fun h => ht ⟨hq, .inr h⟩
      simp [h1, h2])
   have hcs : p0 = false ∨ (p0 = true ∧ (tn != 1) = true ∧ (tn != 2) = true) := by
    rcases hq : p0 with _ | _
    · exact .inl rfl
    · have h1 : tn ≠ 1 := fun h => ht ⟨hq, .inl h⟩
      have h2 : tn ≠ 2 := fun h => ht ⟨hq, .inr h⟩
      exact .inr ⟨rfl, by simpa using h1, by simpa using h2⟩
   have HE := hide HE
   clear ht hp0
   have hM := qB w
   rcases hcs with rfl | ⟨rfl, t1, t2⟩
   all_goals
    go_enter Tryz.func73, Tryz.ntmps73
    go_wp2_with (first | (go_at_call 16; (with_reducible refine cb hM (PV _) ?_); clear hM; intro W1 hM) | ((with_reducible refine lX ?_); refine mL ?_) | ((with_reducible refine sX ?_); refine mS ?_; clear hM; intro W hM) | ((with_reducible refine bX ?_); refine mB ?_; clear hM; intro g W hM) | ((with_reducible refine zX ?_); refine mB ?_; clear hM; intro g W hM))
    all_goals
     (refine' qR hM rfl rfl Tryz.isAgg127 Tryz.sizeOf127 rfl rfl ?_ ?_ ⟨?_, hM.below⟩; rotate_left 2; (· repeat constructor); (· rfl); (· (rw [HE.out, kE HE.out (by decide)]; rfl)))
 obtain ⟨rfl, ht⟩ := ht
 have HV := hide (show (qf fx fy && (decide (tn = 1) || decide (tn = 2))) = true by
  rw [hp0]
  rcases ht with rfl | rfl <;> rfl)
 have hfb := jo hp0
 clear hp0
 have hM := qB w
 go_enter Tryz.func73, Tryz.ntmps73
 go_upto_region 0 with fail
 try simp only [pS, pN, sA, sB, sC]
 go_cut [10, 5] (fun s10 s5 wx => ∃ gO gF : Nat, s10 = .pointer (some ⟨gO, 0, none⟩) ∧ s5 = .pointer (some ⟨gF, 0, none⟩) ∧ qQ w wx [(gO, [.int .i64 0, .int .i64 0, .int .i64 0, .int .i64 0, .int .i64 0, .int .i64 0, .int .i64 0, .int .i64 0, .int .i64 0, .int .i64 0, .int .i64 0, .int .i64 0, .int .i64 0, .int .i64 0, .int .i64 0], 127), (gF, [.int .i64 fx, .int .i64 fy], 26)])
 case first =>
  go_wp2_with (first | ((with_reducible refine lX ?_); refine mL ?_) | ((with_reducible refine sX ?_); refine mS ?_; clear hM; intro W hM) | ((with_reducible refine bX ?_); refine mB ?_; clear hM; intro g W hM) | ((with_reducible refine zX ?_); refine mB ?_; clear hM; intro g W hM))
  all_goals
   go_meet
   exact ⟨_, _, rfl, rfl, hM⟩
 case rest =>
 clear hM
 obtain ⟨gO, gF, rfl, rfl, hM⟩ := hcut
 go_upto_region 1 with (first | ((with_reducible refine lX ?_); refine mL ?_) | ((with_reducible refine sX ?_); refine mS ?_; clear hM; intro W hM) | ((with_reducible refine zX ?_); refine mB ?_; clear hM; intro g W hM))
 go_cut [17] (fun s wx => s = .bool false ∧ qQ w wx [(gO, [.int .i64 0, .int .i64 0, .int .i64 0, .int .i64 0, .int .i64 0, .int .i64 0, .int .i64 0, .int .i64 0, .int .i64 0, .int .i64 0, .int .i64 0, .int .i64 0, .int .i64 0, .int .i64 0, .int .i64 0], 127), (gF, [.int .i64 fx, .int .i64 fy], 26)])
 case first =>
  have hcs : ((tn != 1) = true ∧ (tn != 2) = false) ∨ (tn != 1) = false := by
   rcases ht with rfl | rfl
   · exact .inr rfl
   · exact .inl ⟨rfl, rfl⟩
  rcases hcs with ⟨t1, t2⟩ | t1
  all_goals
   go_wp2_with (first | (go_at_call 16; (with_reducible refine cb hM (PV _) ?_); clear hM; intro W1 hM) | ((with_reducible refine lX ?_); refine mL ?_) | ((with_reducible refine sX ?_); refine mS ?_; clear hM; intro W hM) | ((with_reducible refine zX ?_); refine mB ?_; clear hM; intro g W hM))
   all_goals
    go_meet
    exact ⟨rfl, hM⟩
 case rest =>
 clear hM
 obtain ⟨rfl, hM⟩ := hcut
 clear PV
 by_cases hr : inb < 0 ∨ inb ≥ 129600000 ∨ leg < 1 ∨ leg > 2000000 ∨ rad < 1 ∨ rad > 2000000
 · have HE := hide (ae (inb := inb) (leg := leg) (rad := rad) HV.out hr)
   by_cases r1 : inb < 0
   · clear hr
     go_wp2_with (first | ((with_reducible refine lX ?_); refine mL ?_) | ((with_reducible refine sX ?_); refine mS ?_; clear hM; intro W hM) | ((with_reducible refine zX ?_); refine mB ?_; clear hM; intro g W hM))
     all_goals (refine' qR hM rfl rfl Tryz.isAgg127 Tryz.sizeOf127 rfl rfl ?_ ?_ ⟨?_, hM.below⟩; rotate_left 2; (· repeat constructor); (· rfl); (· (rw [HE.out, kE HE.out (by decide)]; rfl)))
   by_cases r2 : 129600000 ≤ inb
   · clear hr
     go_wp2_with (first | ((with_reducible refine lX ?_); refine mL ?_) | ((with_reducible refine sX ?_); refine mS ?_; clear hM; intro W hM) | ((with_reducible refine zX ?_); refine mB ?_; clear hM; intro g W hM))
     all_goals (refine' qR hM rfl rfl Tryz.isAgg127 Tryz.sizeOf127 rfl rfl ?_ ?_ ⟨?_, hM.below⟩; rotate_left 2; (· repeat constructor); (· rfl); (· (rw [HE.out, kE HE.out (by decide)]; rfl)))
   by_cases r3 : leg < 1
   · clear hr
     go_wp2_with (first | ((with_reducible refine lX ?_); refine mL ?_) | ((with_reducible refine sX ?_); refine mS ?_; clear hM; intro W hM) | ((with_reducible refine zX ?_); refine mB ?_; clear hM; intro g W hM))
     all_goals (refine' qR hM rfl rfl Tryz.isAgg127 Tryz.sizeOf127 rfl rfl ?_ ?_ ⟨?_, hM.below⟩; rotate_left 2; (· repeat constructor); (· rfl); (· (rw [HE.out, kE HE.out (by decide)]; rfl)))
   by_cases r4 : 2000000 < leg
   · clear hr
     go_wp2_with (first | ((with_reducible refine lX ?_); refine mL ?_) | ((with_reducible refine sX ?_); refine mS ?_; clear hM; intro W hM) | ((with_reducible refine zX ?_); refine mB ?_; clear hM; intro g W hM))
     all_goals (refine' qR hM rfl rfl Tryz.isAgg127 Tryz.sizeOf127 rfl rfl ?_ ?_ ⟨?_, hM.below⟩; rotate_left 2; (· repeat constructor); (· rfl); (· (rw [HE.out, kE HE.out (by decide)]; rfl)))
   by_cases r5 : rad < 1
   · clear hr
     go_wp2_with (first | ((with_reducible refine lX ?_); refine mL ?_) | ((with_reducible refine sX ?_); refine mS ?_; clear hM; intro W hM) | ((with_reducible refine zX ?_); refine mB ?_; clear hM; intro g W hM))
     all_goals (refine' qR hM rfl rfl Tryz.isAgg127 Tryz.sizeOf127 rfl rfl ?_ ?_ ⟨?_, hM.below⟩; rotate_left 2; (· repeat constructor); (· rfl); (· (rw [HE.out, kE HE.out (by decide)]; rfl)))
   have r6 : 2000000 < rad := by omega
   clear hr
   go_wp2_with (first | ((with_reducible refine lX ?_); refine mL ?_) | ((with_reducible refine sX ?_); refine mS ?_; clear hM; intro W hM) | ((with_reducible refine zX ?_); refine mB ?_; clear hM; intro g W hM))
   all_goals (refine' qR hM rfl rfl Tryz.isAgg127 Tryz.sizeOf127 rfl rfl ?_ ?_ ⟨?_, hM.below⟩; rotate_left 2; (· repeat constructor); (· rfl); (· (rw [HE.out, kE HE.out (by decide)]; rfl)))
 have HRG := hide hr
 have r1 : ¬ inb < 0 := by omega
 have r2 : ¬ 129600000 ≤ inb := by omega
 have r3 : ¬ leg < 1 := by omega
 have r4 : ¬ 2000000 < leg := by omega
 have r5 : ¬ rad < 1 := by omega
 have r6 : ¬ 2000000 < rad := by omega
 clear hr
 have QT := fun W => Ud tn W
 have qb : xz tn = 32400000 ∨ xz tn = -32400000 := by unfold xz; split <;> omega
 obtain ⟨q, hq⟩ : ∃ q, xz tn = q := ⟨_, rfl⟩
 rw [hq] at QT qb
 obtain ⟨U, hU⟩ : ∃ U, yt inb tn = U := ⟨_, rfl⟩
 have hU2 : inb + q = U := by rw [← hq]; exact hU
 have w1 : IntKind.i64.wrap (inb + q) = U := by rw [hU2]; exact IntWalk.i64_in U (by omega)
 have w2 := IntWalk.i64_in (2 * q) (by omega)
 have w3 := IntWalk.i64_in (2 * rad) (by omega)
 have w4 := IntWalk.i64_in (inb + 64800000) (by omega)
 obtain ⟨cx, cy, e1, h1⟩ : ∃ cx cy e1, zi fx fy (yt inb tn) rad = (cx, cy, e1) := ⟨_, _, _, rfl⟩
 obtain ⟨x1, y1, e2, h2⟩ : ∃ x1 y1 e2, zi fx fy (yt inb tn) (2 * rad) = (x1, y1, e2) := ⟨_, _, _, rfl⟩
 obtain ⟨x3, y3, e3, h3⟩ : ∃ x3 y3 e3, zi fx fy (inb + 64800000) leg = (x3, y3, e3) := ⟨_, _, _, rfl⟩
 obtain ⟨HE1, HF1⟩ := cR HV.out HRG.out h1 h2 h3
 have HE := hide HE1
 have HF := hide HF1
 have b1 := wG h1
 have b2 := wG h2
 have b3 := wG h3
 rw [hU] at h1 h2
 have R1 := fun W => jp fx fy U rad (by unfold qH; omega) (by unfold qH; omega) W _ h1.symm
 have R2 := fun W => jp fx fy U (2 * rad) (by unfold qH; omega) (by unfold qH; omega) W _ h2.symm
 have R3 := fun W => jp fx fy (inb + 64800000) leg (by unfold qH; omega) (by unfold qH; omega) W _ h3.symm
 have HQ := hide (And.intro hq hU)
 clear h1 h2 h3 HE1 HF1 hq hU hU2 HV HRG
 go_upto_region 12 with (first | (go_at_call 68; (with_reducible refine (QT _).mono ?_); rintro e W1 ⟨rfl, rfl⟩) | (go_at_call 70; (with_reducible refine cb hM (R1 _) ?_); clear hM; intro W1 hM) | (go_at_call 70; (with_reducible refine cb hM (R2 _) ?_); clear hM; intro W1 hM) | (go_at_call 70; (with_reducible refine cb hM (R3 _) ?_); clear hM; intro W1 hM) | ((with_reducible refine lX ?_); refine mL ?_) | ((with_reducible refine sX ?_); refine mS ?_; clear hM; intro W hM) | ((with_reducible refine zX ?_); refine mB ?_; clear hM; intro g W hM))
 try simp only [pS, pN, sA, sB, sC]
 go_cut [] (fun wx => qQ w wx [(g, [.int .i64 fx, .int .i64 fy, .int .i64 x1, .int .i64 y1, .int .i64 (x1 + x3 - fx), .int .i64 (y1 + y3 - fy), .int .i64 x3, .int .i64 y3, .int .i64 cx, .int .i64 cy, .int .i64 (cx + x3 - fx), .int .i64 (cy + y3 - fy), .int .i64 U, .int .i64 rad, .int .i64 (2 * q)], 127), (gO, [.int .i64 0, .int .i64 0, .int .i64 0, .int .i64 0, .int .i64 0, .int .i64 0, .int .i64 0, .int .i64 0, .int .i64 0, .int .i64 0, .int .i64 0, .int .i64 0, .int .i64 0, .int .i64 0, .int .i64 0], 127), (gF, [.int .i64 fx, .int .i64 fy], 26)])
 case first =>
  refine qW [(gF, [.int .i64 fx, .int .i64 fy], 26)] hM (by kernel_rfl) ?_; (clear hM; intro W hM)
  refine rD 0 ?_
  refine rD 1 ?_
  refine rD 2 ?_
  refine rD 5 ?_
  refine rD 6 ?_
  refine rD 9 ?_
  refine dT 3 7 (fun K' hK' => ?_) (fun K' hK' => ?_)
  ·
   first | refine oL hM ?_ | refine oM hM ?_
   refine rK hK' hM ?_; clear hK' K'
   refine dT 4 7 (fun K' hK' => ?_) (fun K' hK' => ?_)
   ·
    go_wp2_with (first | (go_at_call 106; (with_reducible refine cb hM (uR x1 y1 x3 y3 fx fy g gF _ b2 b3 hfb ?_ ?_ ?_ ?_) ?_); (· exact zY hM); (· exact zY hM); (· exact zY hM); (· exact zY hM); clear hM; intro W1 hM) | (go_at_call 106; (with_reducible refine cb hM (uR cx cy x3 y3 fx fy g gF _ b1 b3 hfb ?_ ?_ ?_ ?_) ?_); (· exact zY hM); (· exact zY hM); (· exact zY hM); (· exact zY hM); clear hM; intro W1 hM))
    refine rK hK' hM ?_; clear hK' K'
    refine dC 7 (fun K' hK' => ?_)
    first | refine oL hM ?_ | refine oM hM ?_
    refine rK hK' hM ?_; clear hK' K'
    refine rD 10 ?_
    refine dC 8 (fun K' hK' => ?_)
    go_wp2_with (first | (go_at_call 106; (with_reducible refine cb hM (uR x1 y1 x3 y3 fx fy g gF _ b2 b3 hfb ?_ ?_ ?_ ?_) ?_); (· exact zY hM); (· exact zY hM); (· exact zY hM); (· exact zY hM); clear hM; intro W1 hM) | (go_at_call 106; (with_reducible refine cb hM (uR cx cy x3 y3 fx fy g gF _ b1 b3 hfb ?_ ?_ ?_ ?_) ?_); (· exact zY hM); (· exact zY hM); (· exact zY hM); (· exact zY hM); clear hM; intro W1 hM))
    refine rK hK' hM ?_; clear hK' K'
    refine dC 11 (fun K' hK' => ?_)
    refine oS hM ?_
    clear hM; intro W hM
    refine rK hK' hM ?_; clear hK' K'
    refine rD 12 ?_
    refine dC 13 (fun K' hK' => ?_)
    refine oS hM ?_
    clear hM; intro W hM
    refine rK hK' hM ?_; clear hK' K'
    refine qE (by kernel_rfl) ?_
    go_wp2_with fail
    all_goals
     go_meet
     exact hM
   ·
    first | refine oL hM ?_ | refine oM hM ?_
    refine rK hK' hM ?_; clear hK' K'
    refine dC 4 (fun K' hK' => ?_)
    go_wp2_with (first | (go_at_call 106; (with_reducible refine cb hM (uR x1 y1 x3 y3 fx fy g gF _ b2 b3 hfb ?_ ?_ ?_ ?_) ?_); (· exact zY hM); (· exact zY hM); (· exact zY hM); (· exact zY hM); clear hM; intro W1 hM) | (go_at_call 106; (with_reducible refine cb hM (uR cx cy x3 y3 fx fy g gF _ b1 b3 hfb ?_ ?_ ?_ ?_) ?_); (· exact zY hM); (· exact zY hM); (· exact zY hM); (· exact zY hM); clear hM; intro W1 hM))
    refine rK hK' hM ?_; clear hK' K'
    refine rD 10 ?_
    refine dC 8 (fun K' hK' => ?_)
    go_wp2_with (first | (go_at_call 106; (with_reducible refine cb hM (uR x1 y1 x3 y3 fx fy g gF _ b2 b3 hfb ?_ ?_ ?_ ?_) ?_); (· exact zY hM); (· exact zY hM); (· exact zY hM); (· exact zY hM); clear hM; intro W1 hM) | (go_at_call 106; (with_reducible refine cb hM (uR cx cy x3 y3 fx fy g gF _ b1 b3 hfb ?_ ?_ ?_ ?_) ?_); (· exact zY hM); (· exact zY hM); (· exact zY hM); (· exact zY hM); clear hM; intro W1 hM))
    refine rK hK' hM ?_; clear hK' K'
    refine dC 11 (fun K' hK' => ?_)
    refine oS hM ?_
    clear hM; intro W hM
    refine rK hK' hM ?_; clear hK' K'
    refine rD 12 ?_
    refine dC 13 (fun K' hK' => ?_)
    refine oS hM ?_
    clear hM; intro W hM
    refine rK hK' hM ?_; clear hK' K'
    refine qE (by kernel_rfl) ?_
    go_wp2_with fail
    all_goals
     go_meet
     exact hM
  ·
   first | refine oL hM ?_ | refine oM hM ?_
   refine rK hK' hM ?_; clear hK' K'
   refine dC 3 (fun K' hK' => ?_)
   first | refine oL hM ?_ | refine oM hM ?_
   refine rK hK' hM ?_; clear hK' K'
   refine dC 4 (fun K' hK' => ?_)
   go_wp2_with (first | (go_at_call 106; (with_reducible refine cb hM (uR x1 y1 x3 y3 fx fy g gF _ b2 b3 hfb ?_ ?_ ?_ ?_) ?_); (· exact zY hM); (· exact zY hM); (· exact zY hM); (· exact zY hM); clear hM; intro W1 hM) | (go_at_call 106; (with_reducible refine cb hM (uR cx cy x3 y3 fx fy g gF _ b1 b3 hfb ?_ ?_ ?_ ?_) ?_); (· exact zY hM); (· exact zY hM); (· exact zY hM); (· exact zY hM); clear hM; intro W1 hM))
   refine rK hK' hM ?_; clear hK' K'
   refine rD 10 ?_
   refine dC 8 (fun K' hK' => ?_)
   go_wp2_with (first | (go_at_call 106; (with_reducible refine cb hM (uR x1 y1 x3 y3 fx fy g gF _ b2 b3 hfb ?_ ?_ ?_ ?_) ?_); (· exact zY hM); (· exact zY hM); (· exact zY hM); (· exact zY hM); clear hM; intro W1 hM) | (go_at_call 106; (with_reducible refine cb hM (uR cx cy x3 y3 fx fy g gF _ b1 b3 hfb ?_ ?_ ?_ ?_) ?_); (· exact zY hM); (· exact zY hM); (· exact zY hM); (· exact zY hM); clear hM; intro W1 hM))
   refine rK hK' hM ?_; clear hK' K'
   refine dC 11 (fun K' hK' => ?_)
   refine oS hM ?_
   clear hM; intro W hM
   refine rK hK' hM ?_; clear hK' K'
   refine rD 12 ?_
   refine dC 13 (fun K' hK' => ?_)
   refine oS hM ?_
   clear hM; intro W hM
   refine rK hK' hM ?_; clear hK' K'
   refine qE (by kernel_rfl) ?_
   go_wp2_with fail
   all_goals
    go_meet
    exact hM
 case rest =>
 clear hM
 have hM := hcut
 clear hcut
 have PA := fun W => qo (x1 + x3 - fx) (y1 + y3 - fy) W
 have PB := fun W => qo (cx + x3 - fx) (cy + y3 - fy) W
 obtain ⟨va, hva⟩ : ∃ va, qf (x1 + x3 - fx) (y1 + y3 - fy) = va := ⟨_, rfl⟩
 obtain ⟨vb, hvb⟩ : ∃ vb, qf (cx + x3 - fx) (cy + y3 - fy) = vb := ⟨_, rfl⟩
 rw [hva] at PA
 rw [hvb] at PB
 have HE2 : Hid (vY fx fy inb tn leg rad = if (e1 = 0 ∧ e2 = 0 ∧ e3 = 0 ∧ va = true ∧ vb = true) then 0 else 2) := hide (by rw [HE.out, hva, hvb])
 clear HE hva hvb
 by_cases hg : e1 = 0 ∧ e2 = 0 ∧ e3 = 0 ∧ va = true ∧ vb = true
 · have HZ := hide (HE2.out.trans (if_pos hg))
   obtain ⟨rfl, rfl, rfl, rfl, rfl⟩ := hg
   clear HE2
   go_wp2_with (first | (go_at_call 16; (with_reducible refine cb hM (PA _) ?_); clear hM; intro W1 hM) | (go_at_call 16; (with_reducible refine cb hM (PB _) ?_); clear hM; intro W1 hM) | ((with_reducible refine lX ?_); refine mL ?_) | ((with_reducible refine sX ?_); refine mS ?_; clear hM; intro W hM) | ((with_reducible refine zX ?_); refine mB ?_; clear hM; intro g W hM))
   all_goals
    (refine' qR hM rfl rfl Tryz.isAgg127 Tryz.sizeOf127 rfl rfl ?_ ?_ ⟨?_, hM.below⟩; rotate_left 2; (· repeat constructor); (· rfl); (· (rw [HZ.out]; unfold Gy; rw [if_pos HZ.out, HF.out, HQ.out.1, HQ.out.2]; rfl)))
 · have HZ := hide (HE2.out.trans (if_neg hg))
   clear HE2
   have hcs : (e1 != 0) = true ∨ ((e1 != 0) = false ∧ (e2 != 0) = true) ∨ ((e1 != 0) = false ∧ (e2 != 0) = false ∧ (e3 != 0) = true) ∨ ((e1 != 0) = false ∧ (e2 != 0) = false ∧ (e3 != 0) = false ∧ va = false) ∨ ((e1 != 0) = false ∧ (e2 != 0) = false ∧ (e3 != 0) = false ∧ va = true ∧ vb = false) := by
    by_cases z1 : e1 = 0
    · by_cases z2 : e2 = 0
      · by_cases z3 : e3 = 0
        · rcases hva : va with _ | _
          · exact .inr (.inr (.inr (.inl ⟨by simpa using z1, by simpa using z2, by simpa using z3, rfl⟩)))
          · rcases hvb : vb with _ | _
            · exact .inr (.inr (.inr (.inr ⟨by simpa using z1, by simpa using z2, by simpa using z3, rfl, rfl⟩)))
            · exact absurd ⟨z1, z2, z3, hva, hvb⟩ hg
        · exact .inr (.inr (.inl ⟨by simpa using z1, by simpa using z2, by simpa using z3⟩))
      · exact .inr (.inl ⟨by simpa using z1, by simpa using z2⟩)
    · exact .inl (by simpa using z1)
   clear hg
   rcases hcs with z | ⟨z, z2⟩ | ⟨z, z2, z3⟩ | ⟨z, z2, z3, rfl⟩ | ⟨z, z2, z3, rfl, rfl⟩
   all_goals
    go_wp2_with (first | (go_at_call 16; (with_reducible refine cb hM (PA _) ?_); clear hM; intro W1 hM) | (go_at_call 16; (with_reducible refine cb hM (PB _) ?_); clear hM; intro W1 hM) | ((with_reducible refine lX ?_); refine mL ?_) | ((with_reducible refine sX ?_); refine mS ?_; clear hM; intro W hM) | ((with_reducible refine zX ?_); refine mB ?_; clear hM; intro g W hM))
    all_goals
     (refine' qR hM rfl rfl Tryz.isAgg127 Tryz.sizeOf127 rfl rfl ?_ ?_ ⟨?_, hM.below⟩; rotate_left 2; (· repeat constructor); (· rfl); (· (rw [HZ.out, kE HZ.out (by decide)]; rfl)))
end Go.Proofs.YteanfgobpjdmnaaGreatDoor
