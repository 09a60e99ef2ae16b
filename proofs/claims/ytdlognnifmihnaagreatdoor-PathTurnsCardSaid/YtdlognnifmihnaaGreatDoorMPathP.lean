/-
  Distances along a path: nodes, and the ends of its elements. No program.
-/
import Derived.Test.YtdlognnifmihnaaGreatDoorMBuildV
namespace Go.Proofs.YtdlognnifmihnaaGreatDoor
set_option linter.unusedVariables false
set_option linter.unusedSimpArgs false
def Qc : List El → Int → Int
 | [], _ => 0
 | x :: l, e => (if x.n ≤ e then x.L else 0) + Qc l e
def mW (l : List El) (len e : Int) : Int × Int := if ¬ vX l len = 0 then (0, vX l len) else (Qc l e, 0)
theorem VL (x : El) (l : List El) (e : Int) : Qc (x :: l) e = (if x.n ≤ e then x.L else 0) + Qc l e := rfl
theorem pd {l : List El} {k : Nat} {x : El} (hx : l[k]? = some x) (e : Int) : Qc (l.take (k + 1)) e = Qc (l.take k) e + (if x.n ≤ e then x.L else 0) := by
 induction l generalizing k with
 | nil => simp at hx
 | cons y l ih =>
   cases k with
   | zero =>
     simp at hx
     subst hx
     simp [Qc]
   | succ k =>
     simp at hx
     rw [List.take_succ_cons, List.take_succ_cons, VL, VL, ih hx]
     omega
theorem rq : bC 251 3000 = (9541, 0) := by decide +kernel
theorem nM : qJ 0 (-30000) 0 0 = 30000 := YF (by decide +kernel) 30000 (by decide +kernel) (by decide +kernel)
theorem nN : qJ 0 0 30000 0 = 30000 := YF (by decide +kernel) 30000 (by decide +kernel) (by decide +kernel)
theorem nO : qJ 0 (-30000) 0 (-9541) = 20459 := YF (by decide +kernel) 20459 (by decide +kernel) (by decide +kernel)
theorem nP : qJ 9541 0 30000 0 = 20459 := YF (by decide +kernel) 20459 (by decide +kernel) (by decide +kernel)
theorem nQ : qF 0 (-30000) 0 0 = (0, 0) := by
 unfold qF
 rw [show (0 : Int) - 0 = 0 from rfl, show (0 : Int) - -30000 = 30000 from rfl, Ze 30000 (by decide)]
 decide +kernel
theorem nR : qF 0 0 30000 0 = (32400000, 0) := by
 unfold qF
 rw [show (0 : Int) - 0 = 0 from rfl, show (30000 : Int) - 0 = 30000 from rfl, Vz 30000 (by decide)]
 decide +kernel
theorem lB : qF 0 (-30000) 0 (-9541) = (0, 0) := by
 unfold qF
 rw [show (0 : Int) - 0 = 0 from rfl, show (-9541 : Int) - -30000 = 20459 from rfl, Ze 20459 (by decide)]
 decide +kernel
theorem dR : qM 1 9541 (qV 16200000) (qX 16200000) = (9541, 0) := by decide +kernel
theorem ru : vV 0 (-30000) 0 0 30000 0 9541 = ([9541, -9541, 9541, 97200000, 32400000, 0, -9541, 9541, 0, 9541], 0) := by
 unfold vV
 rw [nM, nN, show (0 : Int) - 0 = 0 from rfl, show (0 : Int) - -30000 = 30000 from rfl, show (30000 : Int) - 0 = 30000 from rfl, Vz 30000 (by decide), Ze 30000 (by decide)]
 decide +kernel
theorem Jr : qA 9541 (-9541) 9541 97200000 16200000 = 7493 := by decide +kernel
theorem KH : qA 9541 (-9541) 9541 113400000 16200000 = 7493 := by decide +kernel
theorem rv : qI 9541 (-9541) 9541 97200000 16200000 7493 = (2794, -2794, 16200000, 0) := by decide +kernel
def kX : List El :=
 [⟨false, 0, -30000, 0, -9541, 0, 0, 0, 0, 0, 20459, 1, false⟩, ⟨true, 0, -9541, 2794, -2794, 9541, -9541, 9541, 97200000, 16200000, 7493, 1, false⟩,
  ⟨true, 2794, -2794, 9541, 0, 9541, -9541, 9541, 113400000, 16200000, 7493, 2, false⟩, ⟨false, 9541, 0, 30000, 0, 0, 0, 0, 0, 0, 20459, 2, false⟩]
theorem Rz : uX false 0 (-30000) 0 (-9541) 0 0 0 0 0 20459 = 0 := by
 unfold uX
 rw [show (qf 0 (-30000) && qf 0 (-9541)) = true from by decide +kernel, nO]
 rw [if_neg (by decide), if_neg (by decide), if_neg (by decide), if_neg (by decide)]
theorem RB : uX false 9541 0 30000 0 0 0 0 0 0 20459 = 0 := by
 unfold uX
 rw [show (qf 9541 0 && qf 30000 0) = true from by decide +kernel, nP]
 rw [if_neg (by decide), if_neg (by decide), if_neg (by decide), if_neg (by decide)]
theorem RE : uX true 0 (-9541) 2794 (-2794) 9541 (-9541) 9541 97200000 16200000 7493 = 0 := by
 unfold uX
 rw [show (qf 0 (-9541) && qf 2794 (-2794)) = true from by decide +kernel, show yX 9541 (-9541) 9541 97200000 16200000 = true from by decide +kernel, Jr,
  show uW 9541 (-9541) 9541 97200000 16200000 0 0 (-9541) = false from by decide +kernel, show uW 9541 (-9541) 9541 97200000 16200000 7493 2794 (-2794) = false from by decide +kernel]
 rw [if_neg (by decide), if_pos rfl, if_neg (by decide), if_neg (by decide), if_neg (by decide)]
theorem RF : uX true 2794 (-2794) 9541 0 9541 (-9541) 9541 113400000 16200000 7493 = 0 := by
 unfold uX
 rw [show (qf 2794 (-2794) && qf 9541 0) = true from by decide +kernel, show yX 9541 (-9541) 9541 113400000 16200000 = true from by decide +kernel, KH,
  show uW 9541 (-9541) 9541 113400000 16200000 0 2794 (-2794) = false from by decide +kernel, show uW 9541 (-9541) 9541 113400000 16200000 7493 9541 0 = false from by decide +kernel]
 rw [if_neg (by decide), if_pos rfl, if_neg (by decide), if_neg (by decide), if_neg (by decide)]
theorem YV : vX kX 55904 = 0 := by
 unfold vX kX
 rw [if_neg (by decide)]
 rw [kC, if_neg (fun h => h Rz), if_neg (by decide), if_neg (by decide)]
 rw [kC, if_neg (fun h => h RE), if_neg (by decide), if_neg (by decide)]
 rw [kC, if_neg (fun h => h RF), if_neg (by decide), if_neg (by decide)]
 rw [kC, if_neg (fun h => h RB), if_neg (by decide), if_neg (by decide)]
 rw [Kd, if_pos (by decide)]
theorem dS : mW kX 55904 1 = (27952, 0) := by
 unfold mW
 rw [if_neg (by rw [YV]; decide)]
 rfl
theorem lC : JS kX 55904 10000 = (0, -20000, 0, 0) := by
 unfold JS
 rw [if_neg (by rw [YV]; decide), if_neg (by decide)]
 show Pv ⟨false, 0, -30000, 0, -9541, 0, 0, 0, 0, 0, 20459, 1, false⟩ 10000 = _
 unfold Pv
 rw [if_neg (by decide)]
 dsimp only
 rw [lB]
 decide +kernel
def UR : En := ⟨false, 1, ⟨#[65, 47, 48, 48]⟩, ⟨#[]⟩, 0, false, 0, 0, 0, 0, -200000, 6000000, 0, 0, 0, -30000, 0, 0, 2, ⟨#[]⟩⟩
def QV : En := ⟨false, 2, ⟨#[66, 47, 48, 48]⟩, ⟨#[]⟩, 0, false, 0, 0, 0, 0, -200000, 6000000, 0, 0, 0, 0, 0, 0, 2, ⟨#[]⟩⟩
def Js : En := ⟨false, 2, ⟨#[67, 47, 48, 48]⟩, ⟨#[]⟩, 0, false, 0, 0, 0, 0, -200000, 6000000, 0, 0, 30000, 0, 0, 0, 2, ⟨#[]⟩⟩
def Kv : List En := [UR, QV, Js]
def Zr : Tk := ⟨1, 0, -30000, 0, -30000, 0, 0, 0, 0, 0, 0, 0, 0, 0, false⟩
def xA : Tk := ⟨1, 0, -30000, 0, 0, 0, 0, 0, 0, 0, 0, 0, 30000, 1, false⟩
def xC : Tk := ⟨1, 0, 0, 30000, 0, 0, 0, 0, 0, 0, 32400000, 32400000, 30000, 2, false⟩
theorem lD : jN ⟨#[]⟩ ⟨#[]⟩ Kv (-1) = 0 := by decide +kernel
theorem DS : qP none 0 0 0 0 UR QV 251 3000 0 30000 = ({ Zr with n := 0 }, 0) := by
 have h : qP none 0 0 0 0 UR QV 251 3000 0 30000 = (qY 0 (-30000) 0 (-30000) 0, 0) := by kernel_rfl
 rw [h]
 unfold qY
 rw [if_pos (by decide)]
 rfl
theorem DT : qP (some UR) 0 (-30000) 0 0 QV Js 251 3000 0 30000 = ({ xA with n := 0 }, 0) := by
 have h : qP (some UR) 0 (-30000) 0 0 QV Js 251 3000 0 30000 = (qY 0 (-30000) 0 0 0, 0) := by kernel_rfl
 rw [h]
 unfold qY
 rw [if_neg (by decide), nQ, nM]
 rfl
theorem DU : qP (some QV) 0 0 0 0 Js JN 251 3000 0 30000 = ({ xC with n := 0 }, 0) := by
 have h : qP (some QV) 0 0 0 0 Js JN 251 3000 0 30000 = (qY 0 0 30000 0 0, 0) := by kernel_rfl
 rw [h]
 unfold qY
 rw [if_neg (by decide), nR, nN]
 rfl
set_option maxRecDepth 10000 in
theorem dU : qO ⟨#[]⟩ ⟨#[]⟩ Kv (-1) 0 0 0 251 3000 0 30000 = ([Zr, xA, xC], 0, 0) := by
 unfold qO
 have hb : qN (-1) = 0 := by decide
 rw [if_neg (by rw [lD]; simp), if_neg (by decide), if_neg (by decide +kernel), if_neg (by decide), hb, List.drop_zero]
 have s0 : qU 251 3000 0 30000 none 0 0 0 0 0 Kv = yf [Zr] (qU 251 3000 0 30000 (some UR) 1 0 (-30000) 0 0 [QV, Js]) := by
  have h := jc (i := 0) (x := UR) (r := [QV, Js]) (T := { Zr with n := 0 }) rfl DS
  exact h
 have s1 : qU 251 3000 0 30000 (some UR) 1 0 (-30000) 0 0 [QV, Js] = yf [xA] (qU 251 3000 0 30000 (some QV) 2 0 0 0 0 [Js]) := by
  have h := jc (i := 1) (x := QV) (r := [Js]) (T := { xA with n := 0 }) rfl DT
  exact h
 have s2 : qU 251 3000 0 30000 (some QV) 2 0 0 0 0 [Js] = yf [xC] ([], 0, 0) := by
  have h := jc (i := 2) (x := Js) (r := []) (T := { xC with n := 0 }) rfl DU
  exact h
 rw [s0, s1, s2]
 rfl
theorem JW {d : Dw} {qx qy n D : Int} (h : ¬ (d.px = qx ∧ d.py = qy)) (hD : qJ d.px d.py qx qy = D) : zJ d qx qy n = ⟨d.els ++ [⟨false, d.px, d.py, qx, qy, 0, 0, 0, 0, 0, D, n, d.gp⟩], qx, qy, false⟩ := by
 unfold zJ ur
 rw [if_neg h, hD]
theorem YW {d : Dw} {cx cy r f s qx qy n N : Int} (hN : qA cx cy r f s = N) (h : 1 ≤ N) : yu d cx cy r f s qx qy n = ⟨d.els ++ [⟨true, d.px, d.py, qx, qy, cx, cy, r, f, s, N, n, d.gp⟩], qx, qy, false⟩ := by
 unfold yu ur
 rw [hN, if_pos h]
theorem lF : zT 9541 32400000 = 9541 := by
 have h := dR
 unfold zT
 rw [show (((32400000 : Int).natAbs : Nat) : Int) / 2 = 16200000 from by decide]
 unfold qM at h
 split at h
 · exact absurd (congrArg Prod.fst h) (by decide)
 · split at h
   · exact congrArg Prod.fst h
   · exact absurd (congrArg Prod.fst h) (by decide)
theorem NE : gW 9541 32400000 15000 = some 9541 := by
 unfold gW
 rw [if_neg (by decide), lF, if_neg (by decide)]
theorem ry {rad r : Int} {d : Dw} {x y : Tk} {c1 c2 : Int × Int} {F : List Int} (h1 : qF x.ax x.ay x.bx x.b_y = c1) (h2 : qF y.ax y.ay y.bx y.b_y = c2) (h3 : gW rad (zw c1.1 c2.1) (US x y) = some r)
 (h4 : vV x.ax x.ay x.bx x.b_y y.bx y.b_y r = (F, 0)) (h5 : ¬ F.getD 9 0 = 0) (h6 : F.getD 9 0 ≤ US x y) : Kw rad d x y = vk d x.n y.n F := by
 unfold Kw
 rw [h1, h2, h3]
 dsimp only
 rw [h4, if_neg]
 rintro (h | h | h)
 · exact h rfl
 · exact h5 h
 · exact absurd h (by show ¬ US x y < F.getD 9 0; omega)
theorem Gh {d : Dw} {xn yn cx cy r f s ax ay bx b_y q mx my mc n1 : Int} (h1 : qA cx cy r f (s.tdiv 2) = n1) (h2 : qI cx cy r f (s.tdiv 2) n1 = (mx, my, mc, 0)) :
 vk d xn yn [cx, cy, r, f, s, ax, ay, bx, b_y, q] = some (yu (yu (zJ d ax ay xn) cx cy r f (s.tdiv 2) mx my xn) cx cy r (norm (f + s.tdiv 2)) (s - s.tdiv 2) bx b_y yn) := by
 unfold vk
 dsimp only
 rw [h1, h2, if_neg (by simp)]
theorem rz : US xA xC = 15000 := by decide
theorem DW : Kw 9541 ⟨[], 0, -30000, false⟩ xA xC = some ⟨kX.take 3, 9541, 0, false⟩ := by
 rw [ry (rad := 9541) (d := ⟨[], 0, -30000, false⟩) (x := xA) (y := xC) (r := 9541) (c1 := (0, 0)) (c2 := (32400000, 0)) nQ nR (by rw [rz, show zw ((0 : Int), (0 : Int)).1 ((32400000 : Int), (0 : Int)).1 = 32400000 from by decide +kernel]; exact NE) ru (by decide +kernel) (by rw [rz]; decide)]
 rw [Gh (n1 := 7493) (mx := 2794) (my := -2794) (mc := 16200000) Jr rv]
 rw [show Int.tdiv 32400000 2 = 16200000 from by decide, show norm (97200000 + 16200000) = 113400000 from by decide, show (32400000 : Int) - 16200000 = 16200000 from by decide]
 rw [JW (D := 20459) (by decide) nO, YW (N := 7493) Jr (by decide), YW (N := 7493) KH (by decide)]
 rfl
theorem DX : zI Kv xA = QV := rfl
theorem rA : ji Kv 0 0 (bC 251 3000) (qO ⟨#[]⟩ ⟨#[]⟩ Kv (-1) 0 0 0 251 3000 0 30000) = (kX, 0, 0) := by
 have q0 : vC Kv true ⟨[], 0, 0, false⟩ Zr = ⟨[], 0, -30000, false⟩ := by
  unfold vC
  rw [if_pos (.inr ⟨rfl, rfl⟩)]
  rfl
 have q1 : ∀ d : Dw, vC Kv false d xA = d := fun d => by
  unfold vC
  rw [if_neg (fun h => h.elim (fun h => by cases h) (fun h => by cases h.1))]
 have q2 : ∀ d : Dw, vC Kv false d xC = d := fun d => by
  unfold vC
  rw [if_neg (fun h => h.elim (fun h => by cases h) (fun h => by cases h.1))]
 have p0 : zW Kv true false ⟨[], 0, 0, false⟩ Zr = ⟨[], 0, -30000, false⟩ := by
  rw [kD, if_neg (by simp), q0]
  unfold zJ
  rw [if_pos (by decide)]
 have l0 : zJ ⟨[], 0, -30000, false⟩ Zr.bx Zr.b_y Zr.n = ⟨[], 0, -30000, false⟩ := by
  unfold zJ
  rw [if_pos (by decide)]
 have p1 : zW Kv false false ⟨[], 0, -30000, false⟩ xA = ⟨[], 0, -30000, false⟩ := by
  rw [kD, if_neg (by simp), q1]
  unfold zJ
  rw [if_pos (by decide)]
 have p2 : zW Kv false true ⟨kX.take 3, 9541, 0, false⟩ xC = ⟨kX.take 3, 9541, 0, false⟩ := by
  rw [kD, if_pos rfl, q2]
 have l2 : zJ ⟨kX.take 3, 9541, 0, false⟩ xC.bx xC.b_y xC.n = ⟨kX, 30000, 0, false⟩ := by
  rw [JW (D := 20459) (by decide) nP]
  rfl
 have t0 : kU 9541 (zW Kv true false ⟨[], 0, 0, false⟩ Zr) (zI Kv Zr) (zI Kv xA) Zr xA = none := by
  unfold kU
  rw [if_pos (by decide)]
 have t1 : kU 9541 (zW Kv false false ⟨[], 0, -30000, false⟩ xA) (zI Kv xA) (zI Kv xC) xA xC = some (⟨kX.take 3, 9541, 0, false⟩, xC) := by
  rw [p1, DX]
  unfold kU
  rw [if_neg (by decide), if_neg (by decide), if_neg (by decide), DW]
  rfl
 have g0 : yU Kv 9541 true false ⟨[], 0, 0, false⟩ [Zr, xA, xC] = (⟨kX, 30000, 0, false⟩, 0, 0) := by
  rw [bi (by decide) (by decide) (.inr t0), p0, l0, ZB (by decide) (by decide) rfl t1, Qm (by decide) (by decide), p2, l2]
  rfl
 rw [dU, rq]
 unfold ji
 rw [if_neg (by simp), if_neg (by simp)]
 dsimp only
 have g1 : ze Kv 9541 true false ⟨[], 0, 0, false⟩ Zr [xA, xC] = (⟨kX, 30000, 0, false⟩, 0, 0) := g0
 rw [g1, if_neg (by simp), if_neg (by decide)]
theorem NF : jH kX = 55904 := by decide
end Go.Proofs.YtdlognnifmihnaaGreatDoor
