/-
  The drawer of a path by boxes: add, line, arc.
-/
import Derived.Test.YtbhpklpkcgcmfaaGreatDoorMMemD
import Derived.Test.YtbhpklpkcgcmfaaGreatDoorMTurnA
set_option maxRecDepth 100000
set_option maxHeartbeats 16000000
namespace Go.Proofs.YtbhpklpkcgcmfaaGreatDoor
open Go.RowKit
set_option linter.unusedVariables false
set_option linter.unusedSimpArgs false
theorem add_d {w0 w : World} {gd : Nat} {rad : Int} {V : Value} {d : Dw} {B R : List Box} {m : Nat} (c : Bool) (ax ay bx b_y cx cy r f s L n : Int) (g : Bool) (hM : Mem w0 w ((gd, dwC V d rad, 74) :: (B ++ R))) (hO : Hid (OwE V d.els B m)) (hm : m ≤ 100000 := by omega) :
 Calls Tryz.prog 58 #[.pointer (some ⟨gd, 0, none⟩), .agg #[.bool c, .int .i64 ax, .int .i64 ay, .int .i64 bx, .int .i64 b_y, .int .i64 cx, .int .i64 cy, .int .i64 r, .int .i64 f, .int .i64 s, .int .i64 L, .int .i64 n, .bool g]] w fun e w' => e = .returned (.tuple #[]) ∧ ∃ V' B', OwE V' (addW d ⟨c, ax, ay, bx, b_y, cx, cy, r, f, s, L, n, g⟩).els B' (m + 1) ∧ Mem w0 w' ((gd, dwC V' (addW d ⟨c, ax, ay, bx, b_y, cx, cy, r, f, s, L, n, g⟩) rad, 74) :: (B' ++ R)) := by
 have hM1 := hM
 go_enter Tryz.func58, Tryz.ntmps58
 go_upto_region 2 with (first | ((with_reducible refine lX ?_); first | refine aL hM rfl rfl ?_ | refine aM hM rfl rfl ?_) | ((with_reducible refine sX ?_); refine aS hM rfl rfl rfl ?_; clear hM; intro W hM) | ((with_reducible refine bX ?_); refine aB hM rfl rfl ?_; clear hM; intro g W hM) | ((with_reducible refine zX ?_); refine aN hM rfl rfl ?_; clear hM; intro g W hM))
 try simp only [pS, pN, sA, sB, sC]
 refine region_k [(g, [.bool c, .int .i64 ax, .int .i64 ay, .int .i64 bx, .int .i64 b_y, .int .i64 cx, .int .i64 cy, .int .i64 r, .int .i64 f, .int .i64 s, .int .i64 L, .int .i64 n, .bool d.gp], 48)] hM (by kernel_rfl) ?_; (clear hM; intro W hM)
 refine dP 0 hM ?_
 try simp only [pS, pN, sA, sB, sC]
 refine dP 1 hM ?_
 try simp only [pS, pN, sA, sB, sC]
 refine dP 2 hM ?_
 try simp only [pS, pN, sA, sB, sC]
 refine dP 3 hM ?_
 try simp only [pS, pN, sA, sB, sC]
 first | refine dL 5 hM ?_ | refine dM 5 hM ?_
 try simp only [pS, pN, sA, sB, sC]
 refine dT 4 6 (fun K' hK' => ?_) (fun K' hK' => ?_)
 ·
  first | refine oL hM ?_ | refine oM hM ?_
  refine hK_out hK' hM ?_
  clear hK' K'
  try simp only [pS, pN, sA, sB, sC]
  refine dC 6 (fun K' hK' => ?_)
  refine oB1 hM ?_
  clear hM; intro gB W hM
  refine hK_out hK' hM ?_
  clear hK' K'
  try simp only [pS, pN, sA, sB, sC]
  refine dC 7 (fun K' hK' => ?_)
  refine oA1 (e := ⟨c, ax, ay, bx, b_y, cx, cy, r, f, s, L, n, d.gp⟩) hM hO hm ?_
  clear hM; intro gA capA BA W HOA hM
  simp only [List.cons_append, List.nil_append] at hM
  refine hK_out hK' hM ?_
  clear hK' K'
  try simp only [pS, pN, sA, sB, sC]
  refine dP 8 hM ?_
  try simp only [pS, pN, sA, sB, sC]
  refine dP 9 hM ?_
  try simp only [pS, pN, sA, sB, sC]
  refine dC 10 (fun K' hK' => ?_)
  refine oSz hM Tryz.sizeOf31 ?_
  clear hM; intro W hM
  refine hK_out hK' hM ?_
  clear hK' K'
  try simp only [pS, pN, sA, sB, sC]
  refine tk_done (by kernel_rfl) ?_
  go_wp2_with (first | ((with_reducible refine lX ?_); first | refine aL hM rfl rfl ?_ | refine aM hM rfl rfl ?_) | ((with_reducible refine sX ?_); refine aS hM rfl rfl rfl ?_; clear hM; intro W hM) | ((with_reducible refine bX ?_); refine aB hM rfl rfl ?_; clear hM; intro g W hM) | ((with_reducible refine zX ?_); refine aN hM rfl rfl ?_; clear hM; intro g W hM))
  all_goals
   (refine bodyPost_end (v := .tuple #[]) (by simp [results, Tryz.results58, go_sem]) rfl ?_; exact ⟨rfl, _, BA, HOA.out, mem_tl (mem_tl hM)⟩)
 ·
  refine oB1 hM ?_
  clear hM; intro gB W hM
  refine hK_out hK' hM ?_
  clear hK' K'
  try simp only [pS, pN, sA, sB, sC]
  refine dC 4 (fun K' hK' => ?_)
  first | refine oL hM ?_ | refine oM hM ?_
  refine hK_out hK' hM ?_
  clear hK' K'
  try simp only [pS, pN, sA, sB, sC]
  refine dC 7 (fun K' hK' => ?_)
  refine oA1 (e := ⟨c, ax, ay, bx, b_y, cx, cy, r, f, s, L, n, d.gp⟩) hM hO hm ?_
  clear hM; intro gA capA BA W HOA hM
  simp only [List.cons_append, List.nil_append] at hM
  refine hK_out hK' hM ?_
  clear hK' K'
  try simp only [pS, pN, sA, sB, sC]
  refine dP 8 hM ?_
  try simp only [pS, pN, sA, sB, sC]
  refine dP 9 hM ?_
  try simp only [pS, pN, sA, sB, sC]
  refine dC 10 (fun K' hK' => ?_)
  refine oSz hM Tryz.sizeOf31 ?_
  clear hM; intro W hM
  refine hK_out hK' hM ?_
  clear hK' K'
  try simp only [pS, pN, sA, sB, sC]
  refine tk_done (by kernel_rfl) ?_
  go_wp2_with (first | ((with_reducible refine lX ?_); first | refine aL hM rfl rfl ?_ | refine aM hM rfl rfl ?_) | ((with_reducible refine sX ?_); refine aS hM rfl rfl rfl ?_; clear hM; intro W hM) | ((with_reducible refine bX ?_); refine aB hM rfl rfl ?_; clear hM; intro g W hM) | ((with_reducible refine zX ?_); refine aN hM rfl rfl ?_; clear hM; intro g W hM))
  all_goals
   (refine bodyPost_end (v := .tuple #[]) (by simp [results, Tryz.results58, go_sem]) rfl ?_; exact ⟨rfl, _, BA, HOA.out, mem_tl (mem_tl hM)⟩)
theorem line_d {w0 w : World} {gd : Nat} {rad : Int} {V : Value} {d : Dw} {B R : List Box} {m : Nat} (qx qy n : Int) (hM : Mem w0 w ((gd, dwC V d rad, 74) :: (B ++ R))) (hO : Hid (OwE V d.els B m)) (hm : m ≤ 100000 := by omega) :
 Calls Tryz.prog 24 #[.pointer (some ⟨gd, 0, none⟩), .agg #[.int .i64 qx, .int .i64 qy], .int .i64 n] w fun e w' => e = .returned (.tuple #[]) ∧ ∃ V' B', OwE V' (lineW d qx qy n).els B' (m + 1) ∧ Mem w0 w' ((gd, dwC V' (lineW d qx qy n) rad, 74) :: (B' ++ R)) := by
 by_cases hq : d.px = qx ∧ d.py = qy
 · have HL := hide (show lineW d qx qy n = d by unfold lineW; rw [if_pos hq])
   obtain ⟨rfl, rfl⟩ := hq
   go_enter Tryz.func24, Tryz.ntmps24
   go_upto_region 1 with (first | ((with_reducible refine lX ?_); first | refine aL hM rfl rfl ?_ | refine aM hM rfl rfl ?_) | ((with_reducible refine sX ?_); refine aS hM rfl rfl rfl ?_; clear hM; intro W hM) | ((with_reducible refine bX ?_); refine aB hM rfl rfl ?_; clear hM; intro g W hM) | ((with_reducible refine zX ?_); refine aN hM rfl rfl ?_; clear hM; intro g W hM))
   try simp only [pS, pN, sA, sB, sC]
   refine region_k [(g, [.int .i64 d.px, .int .i64 d.py], 26), (gd, dwC V d rad, 74)] hM (by kernel_rfl) ?_; (clear hM; intro W hM)
   refine dP 0 hM ?_
   try simp only [pS, pN, sA, sB, sC]
   refine dP 1 hM ?_
   try simp only [pS, pN, sA, sB, sC]
   refine dP 2 hM ?_
   try simp only [pS, pN, sA, sB, sC]
   first | refine dL 3 hM ?_ | refine dM 3 hM ?_
   try simp only [pS, pN, sA, sB, sC]
   first | refine dL 4 hM ?_ | refine dM 4 hM ?_
   try simp only [pS, pN, sA, sB, sC]
   refine dP 5 hM ?_
   try simp only [pS, pN, sA, sB, sC]
   refine tk_done (by kernel_rfl) ?_
   go_wp2_with (first | ((with_reducible refine lX ?_); first | refine aL hM rfl rfl ?_ | refine aM hM rfl rfl ?_) | ((with_reducible refine sX ?_); refine aS hM rfl rfl rfl ?_; clear hM; intro W hM) | ((with_reducible refine bX ?_); refine aB hM rfl rfl ?_; clear hM; intro g W hM) | ((with_reducible refine zX ?_); refine aN hM rfl rfl ?_; clear hM; intro g W hM))
   all_goals
    (refine bodyPost_end (v := .tuple #[]) (by simp [results, Tryz.results24, go_sem]) rfl ?_; exact ⟨rfl, V, B, by rw [HL.out]; exact ⟨hO.out.1, by have := hO.out.2; omega⟩, by rw [HL.out]; exact mem_tl hM⟩)
 · have HL := hide (show lineW d qx qy n = addW d ⟨false, d.px, d.py, qx, qy, 0, 0, 0, 0, 0, distF d.px d.py qx qy, n, false⟩ by unfold lineW; rw [if_neg hq])
   go_enter Tryz.func24, Tryz.ntmps24
   go_upto_region 1 with (first | ((with_reducible refine lX ?_); first | refine aL hM rfl rfl ?_ | refine aM hM rfl rfl ?_) | ((with_reducible refine sX ?_); refine aS hM rfl rfl rfl ?_; clear hM; intro W hM) | ((with_reducible refine bX ?_); refine aB hM rfl rfl ?_; clear hM; intro g W hM) | ((with_reducible refine zX ?_); refine aN hM rfl rfl ?_; clear hM; intro g W hM))
   try simp only [pS, pN, sA, sB, sC]
   refine region_k [(g, [.int .i64 qx, .int .i64 qy], 26), (gd, dwC V d rad, 74)] hM (by kernel_rfl) ?_; (clear hM; intro W hM)
   refine dP 0 hM ?_
   try simp only [pS, pN, sA, sB, sC]
   refine dP 1 hM ?_
   try simp only [pS, pN, sA, sB, sC]
   refine dP 2 hM ?_
   try simp only [pS, pN, sA, sB, sC]
   first | refine dL 3 hM ?_ | refine dM 3 hM ?_
   try simp only [pS, pN, sA, sB, sC]
   first | refine dL 4 hM ?_ | refine dM 4 hM ?_
   try simp only [pS, pN, sA, sB, sC]
   refine dP 5 (v := .bool true) hM ?_ (hv := by (intro W0; go_simp; exact fun h1 h2 => hq ⟨h1, h2⟩))
   try simp only [pS, pN, sA, sB, sC]
   refine tk_done (by kernel_rfl) ?_
   go_upto_region 2 with (first | ((with_reducible refine lX ?_); first | refine aL hM rfl rfl ?_ | refine aM hM rfl rfl ?_) | ((with_reducible refine sX ?_); refine aS hM rfl rfl rfl ?_; clear hM; intro W hM) | ((with_reducible refine bX ?_); refine aB hM rfl rfl ?_; clear hM; intro g W hM) | ((with_reducible refine zX ?_); refine aN hM rfl rfl ?_; clear hM; intro g W hM))
   refine region_k [(g, [.int .i64 qx, .int .i64 qy], 26)] hM (by kernel_rfl) ?_; (clear hM; intro W hM)
   refine dP 0 hM ?_
   try simp only [pS, pN, sA, sB, sC]
   refine dP 1 hM ?_
   try simp only [pS, pN, sA, sB, sC]
   refine dP 2 hM ?_
   try simp only [pS, pN, sA, sB, sC]
   refine dP 3 hM ?_
   try simp only [pS, pN, sA, sB, sC]
   first | refine dL 5 hM ?_ | refine dM 5 hM ?_
   try simp only [pS, pN, sA, sB, sC]
   refine dP 6 hM ?_
   try simp only [pS, pN, sA, sB, sC]
   refine dP 7 hM ?_
   try simp only [pS, pN, sA, sB, sC]
   refine dP 8 hM ?_
   try simp only [pS, pN, sA, sB, sC]
   first | refine dL 10 hM ?_ | refine dM 10 hM ?_
   try simp only [pS, pN, sA, sB, sC]
   refine dP 12 hM ?_
   try simp only [pS, pN, sA, sB, sC]
   refine dT 4 9 (fun K' hK' => ?_) (fun K' hK' => ?_)
   ·
    first | refine oL hM ?_ | refine oM hM ?_
    refine hK_out hK' hM ?_
    clear hK' K'
    try simp only [pS, pN, sA, sB, sC]
    refine dC 9 (fun K' hK' => ?_)
    first | refine oL hM ?_ | refine oM hM ?_
    refine hK_out hK' hM ?_
    clear hK' K'
    try simp only [pS, pN, sA, sB, sC]
    refine dC 11 (fun K' hK' => ?_)
    go_wp2_with (first | (go_at_call 18; (with_reducible refine cb hM (dist_any d.px d.py qx qy _) ?_); clear hM; intro W1 hM) | (go_at_call 58; refine cD hM (fun R' hM' => add_d false d.px d.py qx qy 0 0 0 0 0 _ n false hM' hO) ?_; clear hM; intro d1 V1 B1 W1 hd1 hO1 hM; simp only [List.cons_append, List.nil_append] at hM))
    refine hK_out hK' hM ?_
    clear hK' K'
    try simp only [pS, pN, sA, sB, sC]
    refine dP 13 hM ?_
    try simp only [pS, pN, sA, sB, sC]
    refine dC 14 (fun K' hK' => ?_)
    go_wp2_with (first | (go_at_call 18; (with_reducible refine cb hM (dist_any d.px d.py qx qy _) ?_); clear hM; intro W1 hM) | (go_at_call 58; refine cD hM (fun R' hM' => add_d false d.px d.py qx qy 0 0 0 0 0 _ n false hM' hO) ?_; clear hM; intro d1 V1 B1 W1 hd1 hO1 hM; simp only [List.cons_append, List.nil_append] at hM))
    refine hK_out hK' hM ?_
    clear hK' K'
    try simp only [pS, pN, sA, sB, sC]
    refine tk_done (by kernel_rfl) ?_
    go_wp2_with (first | ((with_reducible refine lX ?_); first | refine aL hM rfl rfl ?_ | refine aM hM rfl rfl ?_) | ((with_reducible refine sX ?_); refine aS hM rfl rfl rfl ?_; clear hM; intro W hM) | ((with_reducible refine bX ?_); refine aB hM rfl rfl ?_; clear hM; intro g W hM) | ((with_reducible refine zX ?_); refine aN hM rfl rfl ?_; clear hM; intro g W hM))
    all_goals
     (refine bodyPost_end (v := .tuple #[]) (by simp [results, Tryz.results24, go_sem]) rfl ?_; exact ⟨rfl, V1, B1, by rw [HL.out, hd1.out]; exact hO1.out, by rw [HL.out, hd1.out]; exact mem_tl hM⟩)
   ·
    first | refine oL hM ?_ | refine oM hM ?_
    refine hK_out hK' hM ?_
    clear hK' K'
    try simp only [pS, pN, sA, sB, sC]
    refine dT 4 11 (fun K' hK' => ?_) (fun K' hK' => ?_)
    ·
     first | refine oL hM ?_ | refine oM hM ?_
     refine hK_out hK' hM ?_
     clear hK' K'
     try simp only [pS, pN, sA, sB, sC]
     refine dC 11 (fun K' hK' => ?_)
     go_wp2_with (first | (go_at_call 18; (with_reducible refine cb hM (dist_any d.px d.py qx qy _) ?_); clear hM; intro W1 hM) | (go_at_call 58; refine cD hM (fun R' hM' => add_d false d.px d.py qx qy 0 0 0 0 0 _ n false hM' hO) ?_; clear hM; intro d1 V1 B1 W1 hd1 hO1 hM; simp only [List.cons_append, List.nil_append] at hM))
     refine hK_out hK' hM ?_
     clear hK' K'
     try simp only [pS, pN, sA, sB, sC]
     refine dP 13 hM ?_
     try simp only [pS, pN, sA, sB, sC]
     refine dC 14 (fun K' hK' => ?_)
     go_wp2_with (first | (go_at_call 18; (with_reducible refine cb hM (dist_any d.px d.py qx qy _) ?_); clear hM; intro W1 hM) | (go_at_call 58; refine cD hM (fun R' hM' => add_d false d.px d.py qx qy 0 0 0 0 0 _ n false hM' hO) ?_; clear hM; intro d1 V1 B1 W1 hd1 hO1 hM; simp only [List.cons_append, List.nil_append] at hM))
     refine hK_out hK' hM ?_
     clear hK' K'
     try simp only [pS, pN, sA, sB, sC]
     refine tk_done (by kernel_rfl) ?_
     go_wp2_with (first | ((with_reducible refine lX ?_); first | refine aL hM rfl rfl ?_ | refine aM hM rfl rfl ?_) | ((with_reducible refine sX ?_); refine aS hM rfl rfl rfl ?_; clear hM; intro W hM) | ((with_reducible refine bX ?_); refine aB hM rfl rfl ?_; clear hM; intro g W hM) | ((with_reducible refine zX ?_); refine aN hM rfl rfl ?_; clear hM; intro g W hM))
     all_goals
      (refine bodyPost_end (v := .tuple #[]) (by simp [results, Tryz.results24, go_sem]) rfl ?_; exact ⟨rfl, V1, B1, by rw [HL.out, hd1.out]; exact hO1.out, by rw [HL.out, hd1.out]; exact mem_tl hM⟩)
    ·
     go_wp2_with (first | (go_at_call 18; (with_reducible refine cb hM (dist_any d.px d.py qx qy _) ?_); clear hM; intro W1 hM) | (go_at_call 58; refine cD hM (fun R' hM' => add_d false d.px d.py qx qy 0 0 0 0 0 _ n false hM' hO) ?_; clear hM; intro d1 V1 B1 W1 hd1 hO1 hM; simp only [List.cons_append, List.nil_append] at hM))
     refine hK_out hK' hM ?_
     clear hK' K'
     try simp only [pS, pN, sA, sB, sC]
     refine dC 4 (fun K' hK' => ?_)
     first | refine oL hM ?_ | refine oM hM ?_
     refine hK_out hK' hM ?_
     clear hK' K'
     try simp only [pS, pN, sA, sB, sC]
     refine dP 13 hM ?_
     try simp only [pS, pN, sA, sB, sC]
     refine dC 14 (fun K' hK' => ?_)
     go_wp2_with (first | (go_at_call 18; (with_reducible refine cb hM (dist_any d.px d.py qx qy _) ?_); clear hM; intro W1 hM) | (go_at_call 58; refine cD hM (fun R' hM' => add_d false d.px d.py qx qy 0 0 0 0 0 _ n false hM' hO) ?_; clear hM; intro d1 V1 B1 W1 hd1 hO1 hM; simp only [List.cons_append, List.nil_append] at hM))
     refine hK_out hK' hM ?_
     clear hK' K'
     try simp only [pS, pN, sA, sB, sC]
     refine tk_done (by kernel_rfl) ?_
     go_wp2_with (first | ((with_reducible refine lX ?_); first | refine aL hM rfl rfl ?_ | refine aM hM rfl rfl ?_) | ((with_reducible refine sX ?_); refine aS hM rfl rfl rfl ?_; clear hM; intro W hM) | ((with_reducible refine bX ?_); refine aB hM rfl rfl ?_; clear hM; intro g W hM) | ((with_reducible refine zX ?_); refine aN hM rfl rfl ?_; clear hM; intro g W hM))
     all_goals
      (refine bodyPost_end (v := .tuple #[]) (by simp [results, Tryz.results24, go_sem]) rfl ?_; exact ⟨rfl, V1, B1, by rw [HL.out, hd1.out]; exact hO1.out, by rw [HL.out, hd1.out]; exact mem_tl hM⟩)
theorem arc_d {w0 w : World} {gd : Nat} {rad : Int} {V : Value} {d : Dw} {B R : List Box} {m : Nat} (cx cy r f s qx qy n : Int) (hM : Mem w0 w ((gd, dwC V d rad, 74) :: (B ++ R))) (hO : Hid (OwE V d.els B m)) (hm : m ≤ 100000 := by omega) :
 Calls Tryz.prog 25 #[.pointer (some ⟨gd, 0, none⟩), .agg #[.int .i64 cx, .int .i64 cy, .int .i64 r, .int .i64 f, .int .i64 s], .agg #[.int .i64 qx, .int .i64 qy], .int .i64 n] w fun e w' => e = .returned (.tuple #[]) ∧ ∃ V' B', OwE V' (arcD d cx cy r f s qx qy n).els B' (m + 1) ∧ Mem w0 w' ((gd, dwC V' (arcD d cx cy r f s qx qy n) rad, 74) :: (B' ++ R)) := by
 have TL := fun W => tlen_any cx cy r f s W
 obtain ⟨k, hk⟩ : ∃ k, arcLen cx cy r f s = k := ⟨_, rfl⟩
 rw [hk] at TL
 by_cases h1 : 1 ≤ k
 · have HL := hide (show arcD d cx cy r f s qx qy n = addW d ⟨true, d.px, d.py, qx, qy, cx, cy, r, f, s, k, n, false⟩ by unfold arcD; rw [hk, if_pos h1])
   clear hk
   go_enter Tryz.func25, Tryz.ntmps25
   go_upto_region 0 with (first | ((with_reducible refine lX ?_); first | refine aL hM rfl rfl ?_ | refine aM hM rfl rfl ?_) | ((with_reducible refine sX ?_); refine aS hM rfl rfl rfl ?_; clear hM; intro W hM) | ((with_reducible refine bX ?_); refine aB hM rfl rfl ?_; clear hM; intro g W hM) | ((with_reducible refine zX ?_); refine aN hM rfl rfl ?_; clear hM; intro g W hM))
   try simp only [pS, pN, sA, sB, sC]
   go_cut [6, 5] (fun s6 s5 wx => ∃ gq ga : Nat, s6 = .pointer (some ⟨gq, 0, none⟩) ∧ s5 = .pointer (some ⟨ga, 0, none⟩) ∧ Mem w0 wx ((gq, [.int .i64 qx, .int .i64 qy], 26) :: (ga, [.int .i64 cx, .int .i64 cy, .int .i64 r, .int .i64 f, .int .i64 s], 46) :: (gd, dwC V d rad, 74) :: (B ++ R)))
   case first =>
    go_wp2_with (first | ((with_reducible refine lX ?_); first | refine aL hM rfl rfl ?_ | refine aM hM rfl rfl ?_) | ((with_reducible refine sX ?_); refine aS hM rfl rfl rfl ?_; clear hM; intro W hM) | ((with_reducible refine bX ?_); refine aB hM rfl rfl ?_; clear hM; intro g W hM) | ((with_reducible refine zX ?_); refine aN hM rfl rfl ?_; clear hM; intro g W hM))
    all_goals
     go_meet
     exact ⟨_, _, rfl, rfl, hM⟩
   case rest =>
   clear hM
   obtain ⟨gq, ga, rfl, rfl, hM⟩ := hcut
   go_upto_region 3 with (first | (go_at_call 59; (with_reducible refine cb hM (TL _) ?_); clear hM; intro W1 hM) | ((with_reducible refine lX ?_); first | refine aL hM rfl rfl ?_ | refine aM hM rfl rfl ?_) | ((with_reducible refine sX ?_); refine aS hM rfl rfl rfl ?_; clear hM; intro W hM) | ((with_reducible refine bX ?_); refine aB hM rfl rfl ?_; clear hM; intro g W hM) | ((with_reducible refine zX ?_); refine aN hM rfl rfl ?_; clear hM; intro g W hM))
   try simp only [pS, pN, sA, sB, sC]
   refine region_k [(gq, [.int .i64 qx, .int .i64 qy], 26), (ga, [.int .i64 cx, .int .i64 cy, .int .i64 r, .int .i64 f, .int .i64 s], 46)] hM (by kernel_rfl) ?_; (clear hM; intro W hM)
   refine dP 0 hM ?_
   try simp only [pS, pN, sA, sB, sC]
   refine dP 1 hM ?_
   try simp only [pS, pN, sA, sB, sC]
   refine dP 2 hM ?_
   try simp only [pS, pN, sA, sB, sC]
   refine dP 3 hM ?_
   try simp only [pS, pN, sA, sB, sC]
   first | refine dL 5 hM ?_ | refine dM 5 hM ?_
   try simp only [pS, pN, sA, sB, sC]
   first | refine dL 6 hM ?_ | refine dM 6 hM ?_
   try simp only [pS, pN, sA, sB, sC]
   refine dP 7 hM ?_
   try simp only [pS, pN, sA, sB, sC]
   refine dP 8 hM ?_
   try simp only [pS, pN, sA, sB, sC]
   refine dC 4 (fun K' hK' => ?_)
   first | refine oL hM ?_ | refine oM hM ?_
   refine hK_out hK' hM ?_
   clear hK' K'
   try simp only [pS, pN, sA, sB, sC]
   refine dP 9 hM ?_
   try simp only [pS, pN, sA, sB, sC]
   refine dC 10 (fun K' hK' => ?_)
   go_wp2_with (first | (go_at_call 58; refine cD hM (fun R' hM' => add_d true d.px d.py qx qy cx cy r f s _ n false hM' hO) ?_; clear hM; intro d1 V1 B1 W1 hd1 hO1 hM; simp only [List.cons_append, List.nil_append] at hM))
   refine hK_out hK' hM ?_
   clear hK' K'
   try simp only [pS, pN, sA, sB, sC]
   refine tk_done (by kernel_rfl) ?_
   go_wp2_with (first | ((with_reducible refine lX ?_); first | refine aL hM rfl rfl ?_ | refine aM hM rfl rfl ?_) | ((with_reducible refine sX ?_); refine aS hM rfl rfl rfl ?_; clear hM; intro W hM) | ((with_reducible refine bX ?_); refine aB hM rfl rfl ?_; clear hM; intro g W hM) | ((with_reducible refine zX ?_); refine aN hM rfl rfl ?_; clear hM; intro g W hM))
   all_goals
    (refine bodyPost_ret (v := .tuple #[]) (by simp [results, Tryz.results25, go_sem]) rfl ?_; exact ⟨rfl, V1, B1, by rw [HL.out, hd1.out]; exact hO1.out, by rw [HL.out, hd1.out]; exact mem_tl (mem_tl hM)⟩)
 · have HL := hide (show arcD d cx cy r f s qx qy n = lineW d qx qy n by unfold arcD; rw [hk, if_neg h1])
   clear hk
   go_enter Tryz.func25, Tryz.ntmps25
   go_upto_region 0 with (first | ((with_reducible refine lX ?_); first | refine aL hM rfl rfl ?_ | refine aM hM rfl rfl ?_) | ((with_reducible refine sX ?_); refine aS hM rfl rfl rfl ?_; clear hM; intro W hM) | ((with_reducible refine bX ?_); refine aB hM rfl rfl ?_; clear hM; intro g W hM) | ((with_reducible refine zX ?_); refine aN hM rfl rfl ?_; clear hM; intro g W hM))
   try simp only [pS, pN, sA, sB, sC]
   go_cut [6, 5] (fun s6 s5 wx => ∃ gq ga : Nat, s6 = .pointer (some ⟨gq, 0, none⟩) ∧ s5 = .pointer (some ⟨ga, 0, none⟩) ∧ Mem w0 wx ((gq, [.int .i64 qx, .int .i64 qy], 26) :: (ga, [.int .i64 cx, .int .i64 cy, .int .i64 r, .int .i64 f, .int .i64 s], 46) :: (gd, dwC V d rad, 74) :: (B ++ R)))
   case first =>
    go_wp2_with (first | ((with_reducible refine lX ?_); first | refine aL hM rfl rfl ?_ | refine aM hM rfl rfl ?_) | ((with_reducible refine sX ?_); refine aS hM rfl rfl rfl ?_; clear hM; intro W hM) | ((with_reducible refine bX ?_); refine aB hM rfl rfl ?_; clear hM; intro g W hM) | ((with_reducible refine zX ?_); refine aN hM rfl rfl ?_; clear hM; intro g W hM))
    all_goals
     go_meet
     exact ⟨_, _, rfl, rfl, hM⟩
   case rest =>
   clear hM
   obtain ⟨gq, ga, rfl, rfl, hM⟩ := hcut
   go_wp2_with (first | (go_at_call 59; (with_reducible refine cb hM (TL _) ?_); clear hM; intro W1 hM) | (go_at_call 24; refine cD hM (fun R' hM' => line_d qx qy n hM' hO) ?_; clear hM; intro d1 V1 B1 W1 hd1 hO1 hM; simp only [List.cons_append, List.nil_append] at hM) | ((with_reducible refine lX ?_); first | refine aL hM rfl rfl ?_ | refine aM hM rfl rfl ?_) | ((with_reducible refine sX ?_); refine aS hM rfl rfl rfl ?_; clear hM; intro W hM) | ((with_reducible refine bX ?_); refine aB hM rfl rfl ?_; clear hM; intro g W hM) | ((with_reducible refine zX ?_); refine aN hM rfl rfl ?_; clear hM; intro g W hM))
   all_goals
    (refine bodyPost_end (v := .tuple #[]) (by simp [results, Tryz.results25, go_sem]) rfl ?_; exact ⟨rfl, V1, B1, by rw [HL.out, hd1.out]; exact hO1.out, by rw [HL.out, hd1.out]; exact mem_tl (mem_tl hM)⟩)
end Go.Proofs.YtbhpklpkcgcmfaaGreatDoor
