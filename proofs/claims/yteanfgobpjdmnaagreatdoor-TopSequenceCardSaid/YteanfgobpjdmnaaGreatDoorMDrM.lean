/-
  The drawer of a path by boxes: add, line, arc.
-/
import Derived.Test.YteanfgobpjdmnaaGreatDoorMMemD
import Derived.Test.YteanfgobpjdmnaaGreatDoorMWi
set_option maxRecDepth 100000
set_option maxHeartbeats 16000000
namespace Go.Proofs.YteanfgobpjdmnaaGreatDoor
open Go.RowKit
set_option linter.unusedVariables false
set_option linter.unusedSimpArgs false
theorem Ya {w0 w : World} {gd : Nat} {rad : Int} {V : Value} {d : Dw} {B R : List zz} {m : Nat} (c : Bool) (ax ay bx b_y cx cy r f s L n : Int) (g : Bool) (hM : qQ w0 w ((gd, uq V d rad, 66) :: (B ++ R))) (hO : Hid (bG V d.els B m)) (hm : m ≤ 100000 := by omega) :
 Calls Tryz.prog 31 #[.pointer (some ⟨gd, 0, none⟩), .agg #[.bool c, .int .i64 ax, .int .i64 ay, .int .i64 bx, .int .i64 b_y, .int .i64 cx, .int .i64 cy, .int .i64 r, .int .i64 f, .int .i64 s, .int .i64 L, .int .i64 n, .bool g]] w fun e w' => e = .returned (.tuple #[]) ∧ ∃ V' B', bG V' (ur d ⟨c, ax, ay, bx, b_y, cx, cy, r, f, s, L, n, g⟩).els B' (m + 1) ∧ qQ w0 w' ((gd, uq V' (ur d ⟨c, ax, ay, bx, b_y, cx, cy, r, f, s, L, n, g⟩) rad, 66) :: (B' ++ R)) := by
 have hM1 := hM
 go_enter Tryz.func31, Tryz.ntmps31
 go_upto_region 2 with (first | ((with_reducible refine lX ?_); refine mL ?_) | ((with_reducible refine sX ?_); refine mS ?_; clear hM; intro W hM) | ((with_reducible refine bX ?_); refine mB ?_; clear hM; intro g W hM) | ((with_reducible refine zX ?_); refine mB ?_; clear hM; intro g W hM))
 try simp only [pS, pN, sA, sB, sC]
 refine qW [(g, [.bool c, .int .i64 ax, .int .i64 ay, .int .i64 bx, .int .i64 b_y, .int .i64 cx, .int .i64 cy, .int .i64 r, .int .i64 f, .int .i64 s, .int .i64 L, .int .i64 n, .bool d.gp], 49)] hM (by kernel_rfl) ?_; (clear hM; intro W hM)
 refine rD 0 ?_
 refine rD 1 ?_
 refine rD 2 ?_
 refine rD 3 ?_
 refine rD 5 ?_
 refine dT 4 6 (fun K' hK' => ?_) (fun K' hK' => ?_)
 ·
  first | refine oL hM ?_ | refine oM hM ?_
  refine rK hK' hM ?_; clear hK' K'
  refine dC 6 (fun K' hK' => ?_)
  refine Rt hM ?_
  clear hM; intro gB W hM
  refine rK hK' hM ?_; clear hK' K'
  refine dC 7 (fun K' hK' => ?_)
  refine Ru (e := ⟨c, ax, ay, bx, b_y, cx, cy, r, f, s, L, n, d.gp⟩) hM hO hm ?_
  clear hM; intro gA capA BA W HOA hM
  simp only [List.cons_append, List.nil_append] at hM
  refine rK hK' hM ?_; clear hK' K'
  refine rD 8 ?_
  refine rD 9 ?_
  refine dC 10 (fun K' hK' => ?_)
  refine FH hM Tryz.sizeOf40 ?_
  clear hM; intro W hM
  refine rK hK' hM ?_; clear hK' K'
  refine qE (by kernel_rfl) ?_
  go_wp2_with (first | ((with_reducible refine lX ?_); refine mL ?_) | ((with_reducible refine sX ?_); refine mS ?_; clear hM; intro W hM))
  all_goals
   (refine bodyPost_end (v := .tuple #[]) (by simp [results, Tryz.results31, go_sem]) rfl ?_; exact ⟨rfl, _, BA, HOA.out, qz (qz hM)⟩)
 ·
  refine Rt hM ?_
  clear hM; intro gB W hM
  refine rK hK' hM ?_; clear hK' K'
  refine dC 4 (fun K' hK' => ?_)
  first | refine oL hM ?_ | refine oM hM ?_
  refine rK hK' hM ?_; clear hK' K'
  refine dC 7 (fun K' hK' => ?_)
  refine Ru (e := ⟨c, ax, ay, bx, b_y, cx, cy, r, f, s, L, n, d.gp⟩) hM hO hm ?_
  clear hM; intro gA capA BA W HOA hM
  simp only [List.cons_append, List.nil_append] at hM
  refine rK hK' hM ?_; clear hK' K'
  refine rD 8 ?_
  refine rD 9 ?_
  refine dC 10 (fun K' hK' => ?_)
  refine FH hM Tryz.sizeOf40 ?_
  clear hM; intro W hM
  refine rK hK' hM ?_; clear hK' K'
  refine qE (by kernel_rfl) ?_
  go_wp2_with (first | ((with_reducible refine lX ?_); refine mL ?_) | ((with_reducible refine sX ?_); refine mS ?_; clear hM; intro W hM))
  all_goals
   (refine bodyPost_end (v := .tuple #[]) (by simp [results, Tryz.results31, go_sem]) rfl ?_; exact ⟨rfl, _, BA, HOA.out, qz (qz hM)⟩)
theorem QY {w0 w : World} {gd : Nat} {rad : Int} {V : Value} {d : Dw} {B R : List zz} {m : Nat} (qx qy n : Int) (hM : qQ w0 w ((gd, uq V d rad, 66) :: (B ++ R))) (hO : Hid (bG V d.els B m)) (hm : m ≤ 100000 := by omega) :
 Calls Tryz.prog 11 #[.pointer (some ⟨gd, 0, none⟩), .agg #[.int .i64 qx, .int .i64 qy], .int .i64 n] w fun e w' => e = .returned (.tuple #[]) ∧ ∃ V' B', bG V' (zJ d qx qy n).els B' (m + 1) ∧ qQ w0 w' ((gd, uq V' (zJ d qx qy n) rad, 66) :: (B' ++ R)) := by
 by_cases hq : d.px = qx ∧ d.py = qy
 · have HL := hide (show zJ d qx qy n = d by unfold zJ; rw [if_pos hq])
   obtain ⟨rfl, rfl⟩ := hq
   go_enter Tryz.func11, Tryz.ntmps11
   go_upto_region 1 with (first | ((with_reducible refine lX ?_); refine mL ?_) | ((with_reducible refine sX ?_); refine mS ?_; clear hM; intro W hM) | ((with_reducible refine bX ?_); refine mB ?_; clear hM; intro g W hM) | ((with_reducible refine zX ?_); refine mB ?_; clear hM; intro g W hM))
   try simp only [pS, pN, sA, sB, sC]
   refine qW [(g, [.int .i64 d.px, .int .i64 d.py], 26), (gd, uq V d rad, 66)] hM (by kernel_rfl) ?_; (clear hM; intro W hM)
   refine rD 0 ?_
   refine rD 1 ?_
   refine rD 2 ?_
   refine rD 3 ?_
   refine rD 4 ?_
   refine rD 5 ?_
   refine qE (by kernel_rfl) ?_
   go_wp2_with (first | ((with_reducible refine lX ?_); refine mL ?_))
   all_goals
    (refine bodyPost_end (v := .tuple #[]) (by simp [results, Tryz.results11, go_sem]) rfl ?_; exact ⟨rfl, V, B, by rw [HL.out]; exact ⟨hO.out.1, by have := hO.out.2; omega⟩, by rw [HL.out]; exact qz hM⟩)
 · have HL := hide (show zJ d qx qy n = ur d ⟨false, d.px, d.py, qx, qy, 0, 0, 0, 0, 0, qJ d.px d.py qx qy, n, false⟩ by unfold zJ; rw [if_neg hq])
   go_enter Tryz.func11, Tryz.ntmps11
   go_upto_region 1 with (first | ((with_reducible refine lX ?_); refine mL ?_) | ((with_reducible refine sX ?_); refine mS ?_; clear hM; intro W hM) | ((with_reducible refine bX ?_); refine mB ?_; clear hM; intro g W hM) | ((with_reducible refine zX ?_); refine mB ?_; clear hM; intro g W hM))
   try simp only [pS, pN, sA, sB, sC]
   refine qW [(g, [.int .i64 qx, .int .i64 qy], 26), (gd, uq V d rad, 66)] hM (by kernel_rfl) ?_; (clear hM; intro W hM)
   refine rD 0 ?_
   refine rD 1 ?_
   refine rD 2 ?_
   refine rD 3 ?_
   refine rD 4 ?_
   refine dP 5 (v := .bool true) hM ?_ (hv := by (intro W0; go_simp; exact fun h1 h2 => hq ⟨h1, h2⟩))
   try simp only [pS, pN, sA, sB, sC]
   refine qE (by kernel_rfl) ?_
   go_upto_region 2 with (first | ((with_reducible refine lX ?_); refine mL ?_))
   refine qW [(g, [.int .i64 qx, .int .i64 qy], 26)] hM (by kernel_rfl) ?_; (clear hM; intro W hM)
   refine rD 0 ?_
   refine rD 1 ?_
   refine rD 2 ?_
   refine rD 3 ?_
   refine rD 5 ?_
   refine rD 6 ?_
   refine rD 7 ?_
   refine rD 8 ?_
   refine rD 10 ?_
   refine rD 12 ?_
   refine dT 4 9 (fun K' hK' => ?_) (fun K' hK' => ?_)
   ·
    first | refine oL hM ?_ | refine oM hM ?_
    refine rK hK' hM ?_; clear hK' K'
    refine dC 9 (fun K' hK' => ?_)
    first | refine oL hM ?_ | refine oM hM ?_
    refine rK hK' hM ?_; clear hK' K'
    refine dC 11 (fun K' hK' => ?_)
    go_wp2_with (first | (go_at_call 32; (with_reducible refine cb hM (jJ d.px d.py qx qy _) ?_); clear hM; intro W1 hM) | (go_at_call 31; refine cD hM (fun R' hM' => Ya false d.px d.py qx qy 0 0 0 0 0 _ n false hM' hO) ?_; clear hM; intro d1 V1 B1 W1 hd1 hO1 hM; simp only [List.cons_append, List.nil_append] at hM))
    refine rK hK' hM ?_; clear hK' K'
    refine rD 13 ?_
    refine dC 14 (fun K' hK' => ?_)
    go_wp2_with (first | (go_at_call 32; (with_reducible refine cb hM (jJ d.px d.py qx qy _) ?_); clear hM; intro W1 hM) | (go_at_call 31; refine cD hM (fun R' hM' => Ya false d.px d.py qx qy 0 0 0 0 0 _ n false hM' hO) ?_; clear hM; intro d1 V1 B1 W1 hd1 hO1 hM; simp only [List.cons_append, List.nil_append] at hM))
    refine rK hK' hM ?_; clear hK' K'
    refine qE (by kernel_rfl) ?_
    go_wp2_with (first | ((with_reducible refine lX ?_); refine mL ?_))
    all_goals
     (refine bodyPost_end (v := .tuple #[]) (by simp [results, Tryz.results11, go_sem]) rfl ?_; exact ⟨rfl, V1, B1, by rw [HL.out, hd1.out]; exact hO1.out, by rw [HL.out, hd1.out]; exact qz hM⟩)
   ·
    first | refine oL hM ?_ | refine oM hM ?_
    refine rK hK' hM ?_; clear hK' K'
    refine dT 4 11 (fun K' hK' => ?_) (fun K' hK' => ?_)
    ·
     first | refine oL hM ?_ | refine oM hM ?_
     refine rK hK' hM ?_; clear hK' K'
     refine dC 11 (fun K' hK' => ?_)
     go_wp2_with (first | (go_at_call 32; (with_reducible refine cb hM (jJ d.px d.py qx qy _) ?_); clear hM; intro W1 hM) | (go_at_call 31; refine cD hM (fun R' hM' => Ya false d.px d.py qx qy 0 0 0 0 0 _ n false hM' hO) ?_; clear hM; intro d1 V1 B1 W1 hd1 hO1 hM; simp only [List.cons_append, List.nil_append] at hM))
     refine rK hK' hM ?_; clear hK' K'
     refine rD 13 ?_
     refine dC 14 (fun K' hK' => ?_)
     go_wp2_with (first | (go_at_call 32; (with_reducible refine cb hM (jJ d.px d.py qx qy _) ?_); clear hM; intro W1 hM) | (go_at_call 31; refine cD hM (fun R' hM' => Ya false d.px d.py qx qy 0 0 0 0 0 _ n false hM' hO) ?_; clear hM; intro d1 V1 B1 W1 hd1 hO1 hM; simp only [List.cons_append, List.nil_append] at hM))
     refine rK hK' hM ?_; clear hK' K'
     refine qE (by kernel_rfl) ?_
     go_wp2_with (first | ((with_reducible refine lX ?_); refine mL ?_))
     all_goals
      (refine bodyPost_end (v := .tuple #[]) (by simp [results, Tryz.results11, go_sem]) rfl ?_; exact ⟨rfl, V1, B1, by rw [HL.out, hd1.out]; exact hO1.out, by rw [HL.out, hd1.out]; exact qz hM⟩)
    ·
     go_wp2_with (first | (go_at_call 32; (with_reducible refine cb hM (jJ d.px d.py qx qy _) ?_); clear hM; intro W1 hM) | (go_at_call 31; refine cD hM (fun R' hM' => Ya false d.px d.py qx qy 0 0 0 0 0 _ n false hM' hO) ?_; clear hM; intro d1 V1 B1 W1 hd1 hO1 hM; simp only [List.cons_append, List.nil_append] at hM))
     refine rK hK' hM ?_; clear hK' K'
     refine dC 4 (fun K' hK' => ?_)
     first | refine oL hM ?_ | refine oM hM ?_
     refine rK hK' hM ?_; clear hK' K'
     refine rD 13 ?_
     refine dC 14 (fun K' hK' => ?_)
     go_wp2_with (first | (go_at_call 32; (with_reducible refine cb hM (jJ d.px d.py qx qy _) ?_); clear hM; intro W1 hM) | (go_at_call 31; refine cD hM (fun R' hM' => Ya false d.px d.py qx qy 0 0 0 0 0 _ n false hM' hO) ?_; clear hM; intro d1 V1 B1 W1 hd1 hO1 hM; simp only [List.cons_append, List.nil_append] at hM))
     refine rK hK' hM ?_; clear hK' K'
     refine qE (by kernel_rfl) ?_
     go_wp2_with (first | ((with_reducible refine lX ?_); refine mL ?_))
     all_goals
      (refine bodyPost_end (v := .tuple #[]) (by simp [results, Tryz.results11, go_sem]) rfl ?_; exact ⟨rfl, V1, B1, by rw [HL.out, hd1.out]; exact hO1.out, by rw [HL.out, hd1.out]; exact qz hM⟩)
theorem mG {w0 w : World} {gd : Nat} {rad : Int} {V : Value} {d : Dw} {B R : List zz} {m : Nat} (cx cy r f s qx qy n : Int) (hM : qQ w0 w ((gd, uq V d rad, 66) :: (B ++ R))) (hO : Hid (bG V d.els B m)) (hm : m ≤ 100000 := by omega) :
 Calls Tryz.prog 12 #[.pointer (some ⟨gd, 0, none⟩), .agg #[.int .i64 cx, .int .i64 cy, .int .i64 r, .int .i64 f, .int .i64 s], .agg #[.int .i64 qx, .int .i64 qy], .int .i64 n] w fun e w' => e = .returned (.tuple #[]) ∧ ∃ V' B', bG V' (yu d cx cy r f s qx qy n).els B' (m + 1) ∧ qQ w0 w' ((gd, uq V' (yu d cx cy r f s qx qy n) rad, 66) :: (B' ++ R)) := by
 have TL := fun W => bR cx cy r f s W
 obtain ⟨k, hk⟩ : ∃ k, qA cx cy r f s = k := ⟨_, rfl⟩
 rw [hk] at TL
 by_cases h1 : 1 ≤ k
 · have HL := hide (show yu d cx cy r f s qx qy n = ur d ⟨true, d.px, d.py, qx, qy, cx, cy, r, f, s, k, n, false⟩ by unfold yu; rw [hk, if_pos h1])
   clear hk
   go_enter Tryz.func12, Tryz.ntmps12
   go_upto_region 0 with fail
   try simp only [pS, pN, sA, sB, sC]
   go_cut [6, 5] (fun s6 s5 wx => ∃ gq ga : Nat, s6 = .pointer (some ⟨gq, 0, none⟩) ∧ s5 = .pointer (some ⟨ga, 0, none⟩) ∧ qQ w0 wx ((gq, [.int .i64 qx, .int .i64 qy], 26) :: (ga, [.int .i64 cx, .int .i64 cy, .int .i64 r, .int .i64 f, .int .i64 s], 47) :: (gd, uq V d rad, 66) :: (B ++ R)))
   case first =>
    go_wp2_with (first | ((with_reducible refine lX ?_); refine mL ?_) | ((with_reducible refine sX ?_); refine mS ?_; clear hM; intro W hM) | ((with_reducible refine bX ?_); refine mB ?_; clear hM; intro g W hM) | ((with_reducible refine zX ?_); refine mB ?_; clear hM; intro g W hM))
    all_goals
     go_meet
     exact ⟨_, _, rfl, rfl, hM⟩
   case rest =>
   clear hM
   obtain ⟨gq, ga, rfl, rfl, hM⟩ := hcut
   go_upto_region 3 with (first | (go_at_call 33; (with_reducible refine cb hM (TL _) ?_); clear hM; intro W1 hM) | ((with_reducible refine lX ?_); refine mL ?_))
   try simp only [pS, pN, sA, sB, sC]
   refine qW [(gq, [.int .i64 qx, .int .i64 qy], 26), (ga, [.int .i64 cx, .int .i64 cy, .int .i64 r, .int .i64 f, .int .i64 s], 47)] hM (by kernel_rfl) ?_; (clear hM; intro W hM)
   refine rD 0 ?_
   refine rD 1 ?_
   refine rD 2 ?_
   refine rD 3 ?_
   refine rD 5 ?_
   refine rD 6 ?_
   refine rD 7 ?_
   refine rD 8 ?_
   refine dC 4 (fun K' hK' => ?_)
   first | refine oL hM ?_ | refine oM hM ?_
   refine rK hK' hM ?_; clear hK' K'
   refine rD 9 ?_
   refine dC 10 (fun K' hK' => ?_)
   go_wp2_with (first | (go_at_call 31; refine cD hM (fun R' hM' => Ya true d.px d.py qx qy cx cy r f s _ n false hM' hO) ?_; clear hM; intro d1 V1 B1 W1 hd1 hO1 hM; simp only [List.cons_append, List.nil_append] at hM))
   refine rK hK' hM ?_; clear hK' K'
   refine qE (by kernel_rfl) ?_
   go_wp2_with (first | ((with_reducible refine lX ?_); refine mL ?_))
   all_goals
    (refine bodyPost_ret (v := .tuple #[]) (by simp [results, Tryz.results12, go_sem]) rfl ?_; exact ⟨rfl, V1, B1, by rw [HL.out, hd1.out]; exact hO1.out, by rw [HL.out, hd1.out]; exact qz (qz hM)⟩)
 · have HL := hide (show yu d cx cy r f s qx qy n = zJ d qx qy n by unfold yu; rw [hk, if_neg h1])
   clear hk
   go_enter Tryz.func12, Tryz.ntmps12
   go_upto_region 0 with fail
   try simp only [pS, pN, sA, sB, sC]
   go_cut [6, 5] (fun s6 s5 wx => ∃ gq ga : Nat, s6 = .pointer (some ⟨gq, 0, none⟩) ∧ s5 = .pointer (some ⟨ga, 0, none⟩) ∧ qQ w0 wx ((gq, [.int .i64 qx, .int .i64 qy], 26) :: (ga, [.int .i64 cx, .int .i64 cy, .int .i64 r, .int .i64 f, .int .i64 s], 47) :: (gd, uq V d rad, 66) :: (B ++ R)))
   case first =>
    go_wp2_with (first | ((with_reducible refine lX ?_); refine mL ?_) | ((with_reducible refine sX ?_); refine mS ?_; clear hM; intro W hM) | ((with_reducible refine bX ?_); refine mB ?_; clear hM; intro g W hM) | ((with_reducible refine zX ?_); refine mB ?_; clear hM; intro g W hM))
    all_goals
     go_meet
     exact ⟨_, _, rfl, rfl, hM⟩
   case rest =>
   clear hM
   obtain ⟨gq, ga, rfl, rfl, hM⟩ := hcut
   go_wp2_with (first | (go_at_call 33; (with_reducible refine cb hM (TL _) ?_); clear hM; intro W1 hM) | (go_at_call 11; refine cD hM (fun R' hM' => QY qx qy n hM' hO) ?_; clear hM; intro d1 V1 B1 W1 hd1 hO1 hM; simp only [List.cons_append, List.nil_append] at hM) | ((with_reducible refine lX ?_); refine mL ?_))
   all_goals
    (refine bodyPost_end (v := .tuple #[]) (by simp [results, Tryz.results12, go_sem]) rfl ?_; exact ⟨rfl, V1, B1, by rw [HL.out, hd1.out]; exact hO1.out, by rw [HL.out, hd1.out]; exact qz (qz hM)⟩)
end Go.Proofs.YteanfgobpjdmnaaGreatDoor
