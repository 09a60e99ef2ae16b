/-
  resolve.Tracks for all plans.
-/
import Derived.Test.YtbhpklpkcgcmfaaGreatDoorMPlan3
import Derived.Test.YtbhpklpkcgcmfaaGreatDoorMResF
namespace Go.Proofs.YtbhpklpkcgcmfaaGreatDoor
open Go.RowKit
set_option linter.unusedVariables false
set_option linter.unusedSimpArgs false
set_option linter.unusedSimpArgs false
theorem mem_none {w W : World} {L : List Box} (h : Mem w W L) : Mem w W [] := ⟨h.below, (fun _ _ _ h => by cases h), List.nodup_nil⟩
theorem tkInfo : elInfo Tryz.prog 77 15 120 := by unfold elInfo; kernel_rfl
theorem tracksF_plan {pa pb : ByteArray} {l : List En} {act fx fy c spd bank oalt gr : Int} (h : planF pa pb l act ≠ 0) : tracksF pa pb l act fx fy c spd bank oalt gr = ([], 0, planF pa pb l act) := by unfold tracksF; rw [if_pos h]
theorem tracksF_opt {pa pb : ByteArray} {l : List En} {act fx fy c spd bank oalt gr : Int} (h : planF pa pb l act = 0) (h2 : optE spd bank oalt gr ≠ 0) : tracksF pa pb l act fx fy c spd bank oalt gr = ([], 0, optE spd bank oalt gr) := by unfold tracksF; rw [if_neg (by rw [h]; simp), if_pos h2]
theorem tracksF_pt {pa pb : ByteArray} {l : List En} {act fx fy c spd bank oalt gr : Int} (h : planF pa pb l act = 0) (h2 : optE spd bank oalt gr = 0) (h3 : vldB fx fy = false) : tracksF pa pb l act fx fy c spd bank oalt gr = ([], 0, 1) := by unfold tracksF; rw [if_neg (by rw [h]; simp), if_neg (by rw [h2]; simp), if_pos h3]
theorem tracksF_crs {pa pb : ByteArray} {l : List En} {act fx fy c spd bank oalt gr : Int} (h : planF pa pb l act = 0) (h2 : optE spd bank oalt gr = 0) (h3 : vldB fx fy = true) (h4 : decide (0 ≤ c ∧ c < 129600000) = false) : tracksF pa pb l act fx fy c spd bank oalt gr = ([], 0, 2) := by
 have h5 := of_decide_eq_false h4
 unfold tracksF; rw [if_neg (by rw [h]; simp), if_neg (by rw [h2]; simp), if_neg (by rw [h3]; simp), if_pos (by omega)]
theorem tracksF_go {pa pb : ByteArray} {l : List En} {act fx fy c spd bank oalt gr : Int} (h : planF pa pb l act = 0) (h2 : optE spd bank oalt gr = 0) (h3 : vldB fx fy = true) (h4 : decide (0 ≤ c ∧ c < 129600000) = true) :
 tracksF pa pb l act fx fy c spd bank oalt gr = joinT [] (tracksG spd bank oalt gr (prevB l (beginN act) (beginN act)) (beginN act) fx fy c oalt (l.drop (beginN act))) := by
 have h5 := of_decide_eq_true h4
 rw [tracksG_join]
 have e : prevB l (beginN act) (beginN act) = none := if_pos rfl
 rw [e]
 unfold tracksF; rw [if_neg (by rw [h]; simp), if_neg (by rw [h2]; simp), if_neg (by rw [h3]; simp), if_neg (by omega)]
theorem plan_ok {pa pb : ByteArray} {l : List En} {act : Int} (h : planF pa pb l act = 0) : l.length ≤ 60 ∧ (act = -1 ∨ (0 ≤ act ∧ act < l.length)) := by
 unfold planF at h
 split at h
 · cases h
 split at h
 · cases h
 split at h
 · rename_i h3; exact absurd h h3
 split at h
 · cases h
 · omega
theorem ows_push {e : TypeId} {v : Value} {ts : List Tk} {T : Tk} {cs : List Value} {B : List Box} (h : Ows e 15 v (ts.length + 1) (ts.flatMap Tk.cells ++ cs) B) (hc : cs = T.cells) : Ows e 15 v (ts ++ [T]).length ((ts ++ [T]).flatMap Tk.cells) B := by
 have e1 : (ts ++ [T]).flatMap Tk.cells = ts.flatMap Tk.cells ++ T.cells := by simp [List.flatMap_append]
 rw [e1, List.length_append, ← hc]
 exact h
theorem begin_of {act : Int} {n : Nat} (h : act = -1 ∨ (0 ≤ act ∧ act < n)) : ((beginN act : Nat) : Int) = max act 0 ∧ beginN act ≤ n := by unfold beginN; omega
theorem gapE_w : EnW gapE := ⟨⟨by decide, by decide, by decide, by decide⟩, by unfold I64; decide, by unfold I64; decide, by unfold I64; decide⟩
set_option maxRecDepth 100000 in
set_option maxHeartbeats 16000000 in
theorem tracks_any (pa pb : ByteArray) (S : Option Addr) (l : List En) (cap : Nat) (act fx fy c spd bank oalt gr : Int) (w : World) (ha : pa.size ≤ maxLen) (hb : pb.size ≤ maxLen) (hp : Hid (entsAt w S l)) (hxs : Hid (∀ (k : Nat) (x : En), l[k]? = some x → EnX x)) (hc : I64 c) (ho : I64 oalt) (hu : Hid (usesAt w)) :
 Calls Tryz.prog 22 #[.agg #[.string pa, .string pb, .slice S l.length cap, .int .i64 act], .agg #[.int .i64 fx, .int .i64 fy], .int .i64 c, .agg #[.int .i64 spd, .int .i64 bank, .int .i64 oalt, .int .i64 gr]] w fun e w' => ∃ V B, e = .returned (.tuple #[V, .int .i64 (tracksF pa pb l act fx fy c spd bank oalt gr).2.1, .int .i64 (tracksF pa pb l act fx fy c spd bank oalt gr).2.2]) ∧ Ows 77 15 V (tracksF pa pb l act fx fy c spd bank oalt gr).1.length ((tracksF pa pb l act fx fy c spd bank oalt gr).1.flatMap Tk.cells) B ∧ Mem w w' B := by
 have PC := fun W h1 h2 => check_any pa pb S l cap act W ha hb h1 hxs h2
 have OC := fun W => opts_any spd bank oalt gr W
 have PV := fun W => pvalid_b fx fy W
 have RC := fun W => rcourse_ok c W
 obtain ⟨R, hR⟩ : ∃ R, tracksF pa pb l act fx fy c spd bank oalt gr = R := ⟨_, rfl⟩
 rw [hR]
 obtain ⟨E0, hE⟩ : ∃ E0, planF pa pb l act = E0 := ⟨_, rfl⟩
 rw [hE] at PC
 by_cases h1 : E0 = 0
 rotate_left 1
 · have HR : Hid (R = ([], 0, E0)) := hide (by rw [← hR, ← hE]; exact tracksF_plan (by rw [hE]; exact h1))
   have hne : (E0 != 0) = true := by simpa using h1
   clear hE hR h1
   have hM := mem_nil w
   go_enter Tryz.func22, Tryz.ntmps22
   go_wp2_with (first | (go_at_call 49; (refine (PC _ (hide (entsAt_old hM hp.out)) (hide (usesAt_mem hM hu.out))).mono ?_); rintro e W1 ⟨rfl, hb⟩; replace hM := mem_below hM hb; clear hb) | (go_at_call 50; (with_reducible refine cb hM (OC _) ?_); clear hM; intro W1 hM) | (go_at_call 46; (with_reducible refine cb hM (PV _) ?_); clear hM; intro W1 hM) | (go_at_call 51; (with_reducible refine (RC _).mono ?_); rintro e W1 ⟨rfl, rfl⟩) | ((with_reducible refine lX ?_); first | refine aL hM rfl rfl ?_ | refine aM hM rfl rfl ?_) | ((with_reducible refine sX ?_); refine aS hM rfl rfl rfl ?_; clear hM; intro W hM) | ((with_reducible refine bX ?_); refine aB hM rfl rfl ?_; clear hM; intro g W hM) | ((with_reducible refine zX ?_); refine aN hM rfl rfl ?_; clear hM; intro g W hM))
   all_goals
    go_ret3
    exact ⟨.slice none 0 0, [], by rw [HR.out]; rfl, by rw [HR.out]; exact .nil, mem_none hM⟩
 subst h1
 obtain ⟨E1, hE1⟩ : ∃ E1, optE spd bank oalt gr = E1 := ⟨_, rfl⟩
 rw [hE1] at OC
 by_cases h2 : E1 = 0
 rotate_left 1
 · have HR : Hid (R = ([], 0, E1)) := hide (by rw [← hR, ← hE1]; exact tracksF_opt hE (by rw [hE1]; exact h2))
   have hne : (E1 != 0) = true := by simpa using h2
   clear hE hE1 hR h2
   have hM := mem_nil w
   go_enter Tryz.func22, Tryz.ntmps22
   go_wp2_with (first | (go_at_call 49; (refine (PC _ (hide (entsAt_old hM hp.out)) (hide (usesAt_mem hM hu.out))).mono ?_); rintro e W1 ⟨rfl, hb⟩; replace hM := mem_below hM hb; clear hb) | (go_at_call 50; (with_reducible refine cb hM (OC _) ?_); clear hM; intro W1 hM) | (go_at_call 46; (with_reducible refine cb hM (PV _) ?_); clear hM; intro W1 hM) | (go_at_call 51; (with_reducible refine (RC _).mono ?_); rintro e W1 ⟨rfl, rfl⟩) | ((with_reducible refine lX ?_); first | refine aL hM rfl rfl ?_ | refine aM hM rfl rfl ?_) | ((with_reducible refine sX ?_); refine aS hM rfl rfl rfl ?_; clear hM; intro W hM) | ((with_reducible refine bX ?_); refine aB hM rfl rfl ?_; clear hM; intro g W hM) | ((with_reducible refine zX ?_); refine aN hM rfl rfl ?_; clear hM; intro g W hM))
   all_goals
    go_ret3
    exact ⟨.slice none 0 0, [], by rw [HR.out]; rfl, by rw [HR.out]; exact .nil, mem_none hM⟩
 subst h2
 rcases h3 : vldB fx fy with _ | _
 · have HR : Hid (R = ([], 0, 1)) := hide (by rw [← hR]; exact tracksF_pt hE hE1 h3)
   rw [h3] at PV
   clear hE hE1 hR h3
   have hM := mem_nil w
   go_enter Tryz.func22, Tryz.ntmps22
   go_wp2_with (first | (go_at_call 49; (refine (PC _ (hide (entsAt_old hM hp.out)) (hide (usesAt_mem hM hu.out))).mono ?_); rintro e W1 ⟨rfl, hb⟩; replace hM := mem_below hM hb; clear hb) | (go_at_call 50; (with_reducible refine cb hM (OC _) ?_); clear hM; intro W1 hM) | (go_at_call 46; (with_reducible refine cb hM (PV _) ?_); clear hM; intro W1 hM) | (go_at_call 51; (with_reducible refine (RC _).mono ?_); rintro e W1 ⟨rfl, rfl⟩) | ((with_reducible refine lX ?_); first | refine aL hM rfl rfl ?_ | refine aM hM rfl rfl ?_) | ((with_reducible refine sX ?_); refine aS hM rfl rfl rfl ?_; clear hM; intro W hM) | ((with_reducible refine bX ?_); refine aB hM rfl rfl ?_; clear hM; intro g W hM) | ((with_reducible refine zX ?_); refine aN hM rfl rfl ?_; clear hM; intro g W hM))
   all_goals
    go_ret3
    exact ⟨.slice none 0 0, [], by rw [HR.out]; rfl, by rw [HR.out]; exact .nil, mem_none hM⟩
 rcases h4 : decide (0 ≤ c ∧ c < 129600000) with _ | _
 · have HR : Hid (R = ([], 0, 2)) := hide (by rw [← hR]; exact tracksF_crs hE hE1 h3 h4)
   rw [h3] at PV
   rw [h4] at RC
   clear hE hE1 hR h3 h4
   have hM := mem_nil w
   go_enter Tryz.func22, Tryz.ntmps22
   go_wp2_with (first | (go_at_call 49; (refine (PC _ (hide (entsAt_old hM hp.out)) (hide (usesAt_mem hM hu.out))).mono ?_); rintro e W1 ⟨rfl, hb⟩; replace hM := mem_below hM hb; clear hb) | (go_at_call 50; (with_reducible refine cb hM (OC _) ?_); clear hM; intro W1 hM) | (go_at_call 46; (with_reducible refine cb hM (PV _) ?_); clear hM; intro W1 hM) | (go_at_call 51; (with_reducible refine (RC _).mono ?_); rintro e W1 ⟨rfl, rfl⟩) | ((with_reducible refine lX ?_); first | refine aL hM rfl rfl ?_ | refine aM hM rfl rfl ?_) | ((with_reducible refine sX ?_); refine aS hM rfl rfl rfl ?_; clear hM; intro W hM) | ((with_reducible refine bX ?_); refine aB hM rfl rfl ?_; clear hM; intro g W hM) | ((with_reducible refine zX ?_); refine aN hM rfl rfl ?_; clear hM; intro g W hM))
   all_goals
    go_ret3
    exact ⟨.slice none 0 0, [], by rw [HR.out]; rfl, by rw [HR.out]; exact .nil, mem_none hM⟩
 have HR0 := hide (hR.symm.trans (tracksF_go hE hE1 h3 h4))
 rw [h3] at PV
 rw [h4] at RC
 obtain ⟨l60, hact⟩ := plan_ok hE
 obtain ⟨hbm, hbl⟩ := begin_of hact
 have HBM := hide hbm
 clear hE hE1 hR h3 h4 hbm
 have hM := mem_nil w
 go_enter Tryz.func22, Tryz.ntmps22
 go_upto_region 0 with (first | (go_at_call 49; (refine (PC _ (hide (entsAt_old hM hp.out)) (hide (usesAt_mem hM hu.out))).mono ?_); rintro e W1 ⟨rfl, hb⟩; replace hM := mem_below hM hb; clear hb) | (go_at_call 50; (with_reducible refine cb hM (OC _) ?_); clear hM; intro W1 hM) | (go_at_call 46; (with_reducible refine cb hM (PV _) ?_); clear hM; intro W1 hM) | (go_at_call 51; (with_reducible refine (RC _).mono ?_); rintro e W1 ⟨rfl, rfl⟩) | ((with_reducible refine lX ?_); first | refine aL hM rfl rfl ?_ | refine aM hM rfl rfl ?_) | ((with_reducible refine sX ?_); refine aS hM rfl rfl rfl ?_; clear hM; intro W hM) | ((with_reducible refine bX ?_); refine aB hM rfl rfl ?_; clear hM; intro g W hM) | ((with_reducible refine zX ?_); refine aN hM rfl rfl ?_; clear hM; intro g W hM))
 go_cut [4, 5, 7] (fun s4 s5 s7 wx => ∃ gP gF gO, s4 = .pointer (some ⟨gP, 0, none⟩) ∧ s5 = .pointer (some ⟨gF, 0, none⟩) ∧ s7 = .pointer (some ⟨gO, 0, none⟩) ∧ Mem w wx [(gO, [.int .i64 spd, .int .i64 bank, .int .i64 oalt, .int .i64 gr], 28), (gF, [.int .i64 fx, .int .i64 fy], 26), (gP, [.string pa, .string pb, .slice S l.length cap, .int .i64 act], 24)])
 case first =>
  go_wp2_with (first | (go_at_call 49; (refine (PC _ (hide (entsAt_old hM hp.out)) (hide (usesAt_mem hM hu.out))).mono ?_); rintro e W1 ⟨rfl, hb⟩; replace hM := mem_below hM hb; clear hb) | (go_at_call 50; (with_reducible refine cb hM (OC _) ?_); clear hM; intro W1 hM) | (go_at_call 46; (with_reducible refine cb hM (PV _) ?_); clear hM; intro W1 hM) | (go_at_call 51; (with_reducible refine (RC _).mono ?_); rintro e W1 ⟨rfl, rfl⟩) | ((with_reducible refine lX ?_); first | refine aL hM rfl rfl ?_ | refine aM hM rfl rfl ?_) | ((with_reducible refine sX ?_); refine aS hM rfl rfl rfl ?_; clear hM; intro W hM) | ((with_reducible refine bX ?_); refine aB hM rfl rfl ?_; clear hM; intro g W hM) | ((with_reducible refine zX ?_); refine aN hM rfl rfl ?_; clear hM; intro g W hM))
  all_goals
   go_meet
   exact ⟨_, _, _, rfl, rfl, rfl, hM⟩
 case rest =>
 clear hM
 obtain ⟨gP, gF, gO, rfl, rfl, rfl, hM⟩ := hcut
 go_upto_region 12 with (first | (go_at_call 49; (refine (PC _ (hide (entsAt_old hM hp.out)) (hide (usesAt_mem hM hu.out))).mono ?_); rintro e W1 ⟨rfl, hb⟩; replace hM := mem_below hM hb; clear hb) | (go_at_call 50; (with_reducible refine cb hM (OC _) ?_); clear hM; intro W1 hM) | (go_at_call 46; (with_reducible refine cb hM (PV _) ?_); clear hM; intro W1 hM) | (go_at_call 51; (with_reducible refine (RC _).mono ?_); rintro e W1 ⟨rfl, rfl⟩) | ((with_reducible refine lX ?_); first | refine aL hM rfl rfl ?_ | refine aM hM rfl rfl ?_) | ((with_reducible refine sX ?_); refine aS hM rfl rfl rfl ?_; clear hM; intro W hM) | ((with_reducible refine bX ?_); refine aB hM rfl rfl ?_; clear hM; intro g W hM) | ((with_reducible refine zX ?_); refine aN hM rfl rfl ?_; clear hM; intro g W hM))
 refine region_all hM (by kernel_rfl) ?_; (clear hM; intro W hM hK)
 refine kP 0 hM hK ?_
 try simp only [pS, pN, sA, sB, sC]
 first | refine kL 1 hM hK ?_ | refine kM 1 hM hK ?_
 try simp only [pS, pN, sA, sB, sC]
 refine kP 2 hM hK ?_
 try simp only [pS, pN, sA, sB, sC]
 first | refine kL 3 hM hK ?_ | refine kM 3 hM hK ?_
 try simp only [pS, pN, sA, sB, sC]
 refine kP 4 hM hK ?_
 try simp only [pS, pN, sA, sB, sC]
 refine kP 5 hM hK ?_
 try simp only [pS, pN, sA, sB, sC]
 refine kP 6 hM hK ?_
 try simp only [pS, pN, sA, sB, sC]
 refine tk_done (by kernel_rfl) ?_
 rw [← HBM.out]
 have HRK := HR0
 clear HR0
 go_wp2_with (first | ((with_reducible refine lX ?_); first | refine aL hM rfl rfl ?_ | refine aM hM rfl rfl ?_) | ((with_reducible refine sX ?_); refine aS hM rfl rfl rfl ?_; clear hM; intro W hM) | ((with_reducible refine bX ?_); refine aB hM rfl rfl ?_; clear hM; intro g W hM) | ((with_reducible refine zX ?_); refine aN hM rfl rfl ?_; clear hM; intro g W hM))
 go_loopw [2, 13, 14, 16] (fun cc v al i W => ∃ (k : Nat) (ck ak fxk fyk : Int) (B : List Box) (ts : List Tk), beginN act ≤ k ∧ k ≤ l.length ∧ ts.length ≤ k ∧ cc = .int .i64 ck ∧ al = .int .i64 ak ∧ i = .int .i64 (k : Int) ∧ I64 ck ∧ I64 ak ∧ Hid (Ows 77 15 v ts.length (ts.flatMap Tk.cells) B) ∧ Hid (R = joinT ts (tracksG spd bank oalt gr (prevB l (beginN act) k) k fxk fyk ck ak (l.drop k))) ∧ Mem w W ((gO, [.int .i64 spd, .int .i64 bank, .int .i64 oalt, .int .i64 gr], 28) :: (gF, [.int .i64 fxk, .int .i64 fyk], 26) :: (gP, [.string pa, .string pb, .slice S l.length cap, .int .i64 act], 24) :: B)) (fun _ _ _ i _ => l.length - (intOf i).toNat)
 case atStart => exact ⟨beginN act, c, oalt, fx, fy, [], [], Nat.le_refl _, hbl, by simp, rfl, rfl, rfl, hc, ho, hide .nil, HRK, hM⟩
 case round =>
  clear hM HRK
  obtain ⟨k, ck, ak, fxk, fyk, B, ts, hbk, hkl, hts, rfl, rfl, rfl, hck, hak, HO, HR, hM⟩ := hrel
  by_cases hlt : k < l.length
  · (
    obtain ⟨x, hx⟩ : ∃ x, l[k]? = some x := ⟨_, List.getElem?_eq_getElem hlt⟩
    obtain ⟨b, o, rfl, hat⟩ := hp.out k x hx
    have hxw := hxs.out k x hx
    have HX := hide hx
    clear hx
    go_upto_region 17 with (first | ((with_reducible refine at_ldx ?_); refine mq_old hM rfl (by first | exact rfl | (go_simp; done)) rfl (agT rfl) hat (szT rfl) ?_) | ((with_reducible refine lX ?_); first | refine aL hM rfl rfl ?_ | refine aM hM rfl rfl ?_) | ((with_reducible refine sX ?_); refine aS hM rfl rfl rfl ?_; clear hM; intro W hM) | ((with_reducible refine bX ?_); refine aB hM rfl rfl ?_; clear hM; intro g W hM) | ((with_reducible refine zX ?_); refine aN hM rfl rfl ?_; clear hM; intro g W hM))
    obtain ⟨gx, rfl⟩ : ∃ gx, gx = g := ⟨_, rfl⟩
    clear hat
    rcases hgp : x.gap with _ | _
    rotate_left 1
    · -- a discontinuity
      go_wp2_with (first | ((with_reducible refine lX ?_); first | refine aL hM rfl rfl ?_ | refine aM hM rfl rfl ?_) | ((with_reducible refine sX ?_); refine aS hM rfl rfl rfl ?_; clear hM; intro W hM) | ((with_reducible refine bX ?_); refine aB hM rfl rfl ?_; clear hM; intro g W hM) | ((with_reducible refine zX ?_); refine aN hM rfl rfl ?_; clear hM; intro g W hM))
      all_goals first
       | (exact absurd hgp (Bool.eq_false_iff.1 (by assumption)))
       | (go_roundw; (case rel => exact ⟨k + 1, ck, ak, fxk, fyk, B, ts, by omega, by omega, by omega, rfl, rfl, by go_num, hck, hak, HO, hide (round_gap HX.out hbk hgp HR.out), mem_tail hM⟩); (case measure => simp [intOf]; omega))
    have hpre : Hid (prevB l (beginN act) k = none ∧ k = beginN act) ∨ ∃ (j : Nat) (y : En), k = j + 1 ∧ beginN act < k ∧ Hid (prevB l (beginN act) k = some y) ∧ entAt w b (o + j * 20) y := by
     rcases Nat.eq_or_lt_of_le hbk with h0 | h0
     · exact .inl (hide ⟨by unfold prevB; rw [if_pos h0.symm], h0.symm⟩)
     · obtain ⟨j, rfl⟩ : ∃ j, k = j + 1 := ⟨k - 1, by omega⟩
       obtain ⟨y, hy⟩ : ∃ y, l[j]? = some y := ⟨_, List.getElem?_eq_getElem (by omega)⟩
       obtain ⟨b2, o2, e, h2⟩ := hp.out j y hy
       injection e with e
       injection e with e1 e2
       subst e1 e2
       exact .inr ⟨j, y, rfl, h0, hide (by unfold prevB; rw [if_neg (by omega), Nat.add_sub_cancel]; exact hy), h2⟩
    have HP := hide hpre
    clear hpre
    obtain ⟨y, hy⟩ : ∃ y, (l[k + 1]?).getD gapE = y := ⟨_, rfl⟩
    have HY := hide hy
    clear hy
    obtain ⟨Q, hQ⟩ : ∃ Q, gapQ (prevB l (beginN act) k) = Q := ⟨_, rfl⟩
    have HQ := hide hQ
    clear hQ
    go_upto_region 19 with (first | ((with_reducible refine lX ?_); first | refine aL hM rfl rfl ?_ | refine aM hM rfl rfl ?_) | ((with_reducible refine sX ?_); refine aS hM rfl rfl rfl ?_; clear hM; intro W hM) | ((with_reducible refine bX ?_); refine aB hM rfl rfl ?_; clear hM; intro g W hM) | ((with_reducible refine zX ?_); refine aN hM rfl rfl ?_; clear hM; intro g W hM))
    all_goals first
     | (exact absurd (by assumption) (Bool.eq_false_iff.1 hgp))
     | skip
    obtain ⟨gt, rfl⟩ : ∃ gt, gt = g := ⟨_, rfl⟩
    try simp only [pS, pN, sA, sB, sC]
    go_cut [70] (fun s wx => s = .bool Q ∧ Mem w wx ((gt, Tk.zero.cells, 77) :: (gx, x.cells, 44) :: (gO, [.int .i64 spd, .int .i64 bank, .int .i64 oalt, .int .i64 gr], 28) :: (gF, [.int .i64 fxk, .int .i64 fyk], 26) :: (gP, [.string pa, .string pb, .slice (some ⟨b, o, none⟩) l.length cap, .int .i64 act], 24) :: B))
    case first =>
     rcases HP.out with h0 | ⟨j, y0, rfl, hbl, hpv, hy⟩
     · have hq0 : Q = false := by rw [← HQ.out, h0.out.1]; rfl
       have hge : k ≤ beginN act := by have := h0.out.2; omega
       have hgt0 : decide ((beginN act : Int) < (k : Int)) = false := decide_eq_false (by omega)
       have hgt1 : decide (beginN act < k) = false := decide_eq_false (by omega)
       clear h0 HP
       subst hq0
       go_wp2_with (first | ((with_reducible refine lX ?_); first | refine aL hM rfl rfl ?_ | refine aM hM rfl rfl ?_) | ((with_reducible refine sX ?_); refine aS hM rfl rfl rfl ?_; clear hM; intro W hM) | ((with_reducible refine bX ?_); refine aB hM rfl rfl ?_; clear hM; intro g W hM) | ((with_reducible refine zX ?_); refine aN hM rfl rfl ?_; clear hM; intro g W hM))
       all_goals
        go_meet
        exact ⟨rfl, hM⟩
     · have hyg := ent_gap hy
       have hq0 : Q = y0.gap := by rw [← HQ.out, hpv.out]; rfl
       subst hq0
       have jb : (j : Int) ≤ 60 := by omega
       have iw : IntKind.i64.wrap ((j : Int) + 1 - 1) = j := by rw [show (j : Int) + 1 - 1 = j by omega]; exact IntWalk.i64_in _ (by omega)
       have hz : decide ((beginN act : Int) < (j : Int) + 1) = true := decide_eq_true (by omega)
       have hz1 : decide (beginN act < j + 1) = true := decide_eq_true (by omega)
       clear HP hpv
       go_wp2_with (first | ((with_reducible refine at_ldx ?_); refine mq_old1 hM rfl (by first | exact rfl | (go_simp; done)) rfl (scT rfl) hyg ?_) | ((with_reducible refine lX ?_); first | refine aL hM rfl rfl ?_ | refine aM hM rfl rfl ?_) | ((with_reducible refine sX ?_); refine aS hM rfl rfl rfl ?_; clear hM; intro W hM) | ((with_reducible refine bX ?_); refine aB hM rfl rfl ?_; clear hM; intro g W hM) | ((with_reducible refine zX ?_); refine aN hM rfl rfl ?_; clear hM; intro g W hM))
       all_goals
        go_meet
        exact ⟨rfl, hM⟩
    case rest =>
    clear hM
    obtain ⟨rfl, hM⟩ := hcut
    go_upto_if 70 with (first | ((with_reducible refine lX ?_); first | refine aL hM rfl rfl ?_ | refine aM hM rfl rfl ?_) | ((with_reducible refine sX ?_); refine aS hM rfl rfl rfl ?_; clear hM; intro W hM) | ((with_reducible refine bX ?_); refine aB hM rfl rfl ?_; clear hM; intro g W hM) | ((with_reducible refine zX ?_); refine aN hM rfl rfl ?_; clear hM; intro g W hM))
    try simp only [pS, pN, sA, sB, sC]
    go_cut [18] (fun s wx => ∃ T : Tk, s = .pointer (some ⟨gt, 0, none⟩) ∧ Hid (trackE (prevB l (beginN act) k) fxk fyk ck ak x y spd bank oalt gr = (T, 0)) ∧ Mem w wx ((gt, T.cells, 77) :: (gx, x.cells, 44) :: (gO, [.int .i64 spd, .int .i64 bank, .int .i64 oalt, .int .i64 gr], 28) :: (gF, [.int .i64 fxk, .int .i64 fyk], 26) :: (gP, [.string pa, .string pb, .slice (some ⟨b, o, none⟩) l.length cap, .int .i64 act], 24) :: B))
    case first =>
     rcases Q with _ | _
     rotate_left 1
     · have HT := hide (show trackE (prevB l (beginN act) k) fxk fyk ck ak x y spd bank oalt gr = (gapTk x ck, 0) by unfold trackE; rw [if_pos HQ.out])
       have ST : ∀ W, Calls _ _ _ _ _ := fun W => straight_any x.ex x.ey x.ex x.ey ck W
       have e1 : straightF x.ex x.ey x.ex x.ey ck = tkS 1 x.ex x.ey x.ex x.ey ck 0 := by unfold straightF; rw [if_pos ⟨rfl, rfl⟩]
       rw [e1] at ST
       clear e1
       by_cases ht3 : x.ty = 3
       · have q3 : (x.ty == 3) = true := by simpa using ht3
         have HG := hide (show gapTk x ck = ⟨1, x.ex, x.ey, x.ex, x.ey, 0, 0, 0, 0, 0, x.crs, x.crs, 0, 0, true⟩ by unfold gapTk; rw [if_pos ht3])
         clear ht3
         go_upto_region 23 with (first | (go_at_call 52; (with_reducible refine cb hM (ST _) ?_); clear hM; intro W1 hM) | ((with_reducible refine lX ?_); first | refine aL hM rfl rfl ?_ | refine aM hM rfl rfl ?_) | ((with_reducible refine sX ?_); refine aS hM rfl rfl rfl ?_; clear hM; intro W hM) | ((with_reducible refine bX ?_); refine aB hM rfl rfl ?_; clear hM; intro g W hM) | ((with_reducible refine zX ?_); refine aN hM rfl rfl ?_; clear hM; intro g W hM))
         refine' region_del hM (by kernel_rfl) (.tmp 18) rfl ?_ ?_; rotate_left 1; (· repeat constructor); (clear hM; intro W hM hK hne)
         refine kP 0 hM hK ?_
         try simp only [pS, pN, sA, sB, sC]
         refine kP 1 hM hK ?_
         try simp only [pS, pN, sA, sB, sC]
         first | refine kL 2 hM hK ?_ | refine kM 2 hM hK ?_
         try simp only [pS, pN, sA, sB, sC]
         refine kP 3 hM hK ?_
         try simp only [pS, pN, sA, sB, sC]
         refine kP 4 hM hK ?_
         try simp only [pS, pN, sA, sB, sC]
         first | refine kL 5 hM hK ?_ | refine kM 5 hM hK ?_
         try simp only [pS, pN, sA, sB, sC]
         refine kP 6 hM hK ?_
         try simp only [pS, pN, sA, sB, sC]
         refine' tk_store hM (i := 7) (nthQ rfl) (by kernel_rfl) rfl rfl rfl ?_ ?_ ?_ ?_ ?_ ?_ ?_ hK hne ?_; rotate_left 6; (· constructor); (· repeat constructor); (· repeat constructor); (· repeat constructor); (· exact szT rfl); (· rfl); (· exact onecells rfl); (clear hM hK; intro W hM hK)
         try simp only [pS, pN, sA, sB, sC]
         refine kP 8 hM hK ?_
         try simp only [pS, pN, sA, sB, sC]
         refine' tk_store hM (i := 9) (nthQ rfl) (by kernel_rfl) rfl rfl rfl ?_ ?_ ?_ ?_ ?_ ?_ ?_ hK hne ?_; rotate_left 6; (· constructor); (· repeat constructor); (· repeat constructor); (· repeat constructor); (· exact szT rfl); (· rfl); (· exact onecells rfl); (clear hM hK; intro W hM hK)
         try simp only [pS, pN, sA, sB, sC]
         refine tk_done (by kernel_rfl) ?_
         go_wp2_with (first | ((with_reducible refine lX ?_); first | refine aL hM rfl rfl ?_ | refine aM hM rfl rfl ?_) | ((with_reducible refine sX ?_); refine aS hM rfl rfl rfl ?_; clear hM; intro W hM) | ((with_reducible refine bX ?_); refine aB hM rfl rfl ?_; clear hM; intro g W hM) | ((with_reducible refine zX ?_); refine aN hM rfl rfl ?_; clear hM; intro g W hM))
         all_goals
          go_meet
          exact ⟨⟨1, x.ex, x.ey, x.ex, x.ey, 0, 0, 0, 0, 0, x.crs, x.crs, 0, 0, true⟩, rfl, hide (HT.out.trans (by rw [HG.out])), hM⟩
       · have q3 : (x.ty == 3) = false := by simpa using ht3
         have HG := hide (show gapTk x ck = ⟨1, x.ex, x.ey, x.ex, x.ey, 0, 0, 0, 0, 0, ck, ck, 0, 0, true⟩ by unfold gapTk; rw [if_neg ht3])
         clear ht3
         go_wp2_with (first | (go_at_call 52; (with_reducible refine cb hM (ST _) ?_); clear hM; intro W1 hM) | ((with_reducible refine lX ?_); first | refine aL hM rfl rfl ?_ | refine aM hM rfl rfl ?_) | ((with_reducible refine sX ?_); refine aS hM rfl rfl rfl ?_; clear hM; intro W hM) | ((with_reducible refine bX ?_); refine aB hM rfl rfl ?_; clear hM; intro g W hM) | ((with_reducible refine zX ?_); refine aN hM rfl rfl ?_; clear hM; intro g W hM))
         all_goals
          go_meet
          exact ⟨⟨1, x.ex, x.ey, x.ex, x.ey, 0, 0, 0, 0, 0, ck, ck, 0, 0, true⟩, rfl, hide (HT.out.trans (by rw [HG.out])), hM⟩
     · have HT := hide (show trackE (prevB l (beginN act) k) fxk fyk ck ak x y spd bank oalt gr = resolveT fxk fyk ck ak x y spd bank oalt gr by unfold trackE; rw [if_neg (by rw [HQ.out]; simp)])
       have hyw : EnW y := by
        by_cases hl2 : k + 1 < l.length
        · have h1 : l[k + 1]? = some y := by
           have h2 := HY.out
           rw [List.getElem?_eq_getElem hl2] at h2 ⊢
           exact congrArg some h2
          exact (hxs.out _ _ h1).w
        · have h2 := HY.out
          rw [List.getElem?_eq_none (by omega)] at h2
          rw [← h2]
          exact gapE_w
       have RS := fun W hW => resolve_any fxk fyk ck ak x y spd bank oalt gr hxw.w hyw hak hck W hW
       obtain ⟨T, e, hTe⟩ : ∃ T e, resolveT fxk fyk ck ak x y spd bank oalt gr = (T, e) := ⟨_, _, rfl⟩
       rw [hTe] at RS
       have HT2 := hide (HT.out.trans hTe)
       simp only [En.cells, hgp] at RS
       clear hTe HT
       have kb : (k : Int) ≤ 60 := by omega
       have iw : IntKind.i64.wrap ((k : Int) + 1) = (k : Int) + 1 := IntWalk.i64_in _ (by omega)
       have hnext : Hid (k + 1 < l.length ∧ entAt w b (o + (k + 1) * 20) y) ∨ Hid (l.length ≤ k + 1 ∧ y = gapE) := by
        by_cases hl2 : k + 1 < l.length
        · have h1 : l[k + 1]? = some y := by
           have h2 := HY.out
           rw [List.getElem?_eq_getElem hl2] at h2 ⊢
           exact congrArg some h2
          obtain ⟨b2, o2, e, h2⟩ := hp.out _ _ h1
          injection e with e
          injection e with e1 e2
          subst e1 e2
          exact .inl (hide ⟨hl2, h2⟩)
        · have h2 := HY.out
          rw [List.getElem?_eq_none (by omega)] at h2
          exact .inr (hide ⟨by omega, h2.symm⟩)
       have HNE := hide hnext
       clear hnext
       by_cases he : e = 0
       · subst he
         rcases HNE.out with h | h
         · have k1 : (k : Int) + 1 < (l.length : Int) := by have := h.out.1; omega
           have hatn := h.out.2
           clear HNE h
           go_wp2_with (first | (go_at_call 53; (with_reducible refine (RS _ (hide (usesAt_mem hM hu.out))).mono ?_); rintro e W1 ⟨rfl, hb⟩; replace hM := mem_below hM hb; clear hb) | ((with_reducible refine at_ldx ?_); refine mq_old hM rfl (by first | exact rfl | (go_simp; done)) rfl (agT rfl) hatn (szT rfl) ?_) | ((with_reducible refine lX ?_); first | refine aL hM rfl rfl ?_ | refine aM hM rfl rfl ?_) | ((with_reducible refine sX ?_); refine aS hM rfl rfl rfl ?_; clear hM; intro W hM) | ((with_reducible refine bX ?_); refine aB hM rfl rfl ?_; clear hM; intro g W hM) | ((with_reducible refine zX ?_); refine aN hM rfl rfl ?_; clear hM; intro g W hM))
           all_goals
            go_meet
            exact ⟨T, rfl, HT2, mem_tail hM⟩
         · have k1 : ¬ ((k : Int) + 1 < (l.length : Int)) := by have := h.out.1; omega
           obtain rfl := h.out.2
           simp only [gapE] at RS
           clear HNE h
           go_wp2_with (first | (go_at_call 53; (with_reducible refine (RS _ (hide (usesAt_mem hM hu.out))).mono ?_); rintro e W1 ⟨rfl, hb⟩; replace hM := mem_below hM hb; clear hb) | ((with_reducible refine at_ldx ?_); refine mq_old hM rfl (by first | exact rfl | (go_simp; done)) rfl (agT rfl) hatn (szT rfl) ?_) | ((with_reducible refine lX ?_); first | refine aL hM rfl rfl ?_ | refine aM hM rfl rfl ?_) | ((with_reducible refine sX ?_); refine aS hM rfl rfl rfl ?_; clear hM; intro W hM) | ((with_reducible refine bX ?_); refine aB hM rfl rfl ?_; clear hM; intro g W hM) | ((with_reducible refine zX ?_); refine aN hM rfl rfl ?_; clear hM; intro g W hM))
           all_goals
            go_meet
            exact ⟨T, rfl, HT2, mem_tail hM⟩
       · have HE := hide (round_err HX.out HY.out hgp HT2.out he HR.out)
         have hne : (e != 0) = true := by simpa using he
         rcases HNE.out with h | h
         · have k1 : (k : Int) + 1 < (l.length : Int) := by have := h.out.1; omega
           have hatn := h.out.2
           clear HNE h he
           go_wp2_with (first | (go_at_call 53; (with_reducible refine (RS _ (hide (usesAt_mem hM hu.out))).mono ?_); rintro e W1 ⟨rfl, hb⟩; replace hM := mem_below hM hb; clear hb) | ((with_reducible refine at_ldx ?_); refine mq_old hM rfl (by first | exact rfl | (go_simp; done)) rfl (agT rfl) hatn (szT rfl) ?_) | ((with_reducible refine lX ?_); first | refine aL hM rfl rfl ?_ | refine aM hM rfl rfl ?_) | ((with_reducible refine sX ?_); refine aS hM rfl rfl rfl ?_; clear hM; intro W hM) | ((with_reducible refine bX ?_); refine aB hM rfl rfl ?_; clear hM; intro g W hM) | ((with_reducible refine zX ?_); refine aN hM rfl rfl ?_; clear hM; intro g W hM))
           all_goals
            go_ret3
            exact ⟨.slice none 0 0, [], by rw [HE.out]; rfl, by rw [HE.out]; exact .nil, mem_none hM⟩
         · have k1 : ¬ ((k : Int) + 1 < (l.length : Int)) := by have := h.out.1; omega
           obtain rfl := h.out.2
           simp only [gapE] at RS
           clear HNE h he
           go_wp2_with (first | (go_at_call 53; (with_reducible refine (RS _ (hide (usesAt_mem hM hu.out))).mono ?_); rintro e W1 ⟨rfl, hb⟩; replace hM := mem_below hM hb; clear hb) | ((with_reducible refine at_ldx ?_); refine mq_old hM rfl (by first | exact rfl | (go_simp; done)) rfl (agT rfl) hatn (szT rfl) ?_) | ((with_reducible refine lX ?_); first | refine aL hM rfl rfl ?_ | refine aM hM rfl rfl ?_) | ((with_reducible refine sX ?_); refine aS hM rfl rfl rfl ?_; clear hM; intro W hM) | ((with_reducible refine bX ?_); refine aB hM rfl rfl ?_; clear hM; intro g W hM) | ((with_reducible refine zX ?_); refine aN hM rfl rfl ?_; clear hM; intro g W hM))
           all_goals
            go_ret3
            exact ⟨.slice none 0 0, [], by rw [HE.out]; rfl, by rw [HE.out]; exact .nil, mem_none hM⟩
    case rest =>
    clear hM
    obtain ⟨T, rfl, HT, hM⟩ := hcut
    have hco := okC_track (prevB l (beginN act) k) fxk fyk ak y spd bank oalt gr hck hxw.w.crs
    have HNX := hide (round_leg HX.out HY.out hbk hgp HT.out HR.out)
    have hco2 : I64 T.co := by
     have h2 := hco (by rw [HT.out])
     rw [HT.out] at h2
     exact h2
    have hup : I64 (upAlt x ak) := c64_up hak hxw.lo
    have l61 : k + 1 ≤ 61 := by omega
    clear hco HT
    go_upto_region 33 with (first | ((with_reducible refine at_bsx ?_); refine' ms_bslice hM rfl rfl ?_ Tryz.underlying67 tkInfo ?_ (by decide) (by decide) ?_; rotate_left 1; (· constructor); (· rfl); (clear hM; intro g W hM)) | ((with_reducible refine at_apx ?_); refine' ms_append hM rfl rfl rfl rfl HO.out ?_ Tryz.underlying67 tkInfo ?_ ?_ ?_ ?_ ?_ ?_ ?_; rotate_left 1; (· repeat constructor); rotate_left 2; (· repeat constructor); (· rfl); (· exact onecells rfl); (· decide); (· omega); (· (unfold maxLen; omega)); (clear hM; intro ga capA BA W HOA hM; simp only [List.cons_append, List.nil_append] at hM)) | ((with_reducible refine lX ?_); first | refine aL hM rfl rfl ?_ | refine aM hM rfl rfl ?_) | ((with_reducible refine sX ?_); refine aS hM rfl rfl rfl ?_; clear hM; intro W hM) | ((with_reducible refine bX ?_); refine aB hM rfl rfl ?_; clear hM; intro g W hM) | ((with_reducible refine zX ?_); refine aN hM rfl rfl ?_; clear hM; intro g W hM))
    refine' region_del hM (by kernel_rfl) (.tmp 5) rfl ?_ ?_; rotate_left 1; (· repeat constructor); (clear hM; intro W hM hK hne)
    refine kP 0 hM hK ?_
    try simp only [pS, pN, sA, sB, sC]
    first | refine kL 1 hM hK ?_ | refine kM 1 hM hK ?_
    try simp only [pS, pN, sA, sB, sC]
    refine kP 2 hM hK ?_
    try simp only [pS, pN, sA, sB, sC]
    first | refine kL 3 hM hK ?_ | refine kM 3 hM hK ?_
    try simp only [pS, pN, sA, sB, sC]
    refine' tk_store hM (i := 4) (nthQ rfl) (by kernel_rfl) rfl rfl rfl ?_ ?_ ?_ ?_ ?_ ?_ ?_ hK hne ?_; rotate_left 6; (· constructor); (· repeat constructor); (· repeat constructor); (· repeat constructor); (· exact szT rfl); (· rfl); (· exact onecells rfl); (clear hM hK; intro W hM hK)
    try simp only [pS, pN, sA, sB, sC]
    refine kP 5 hM hK ?_
    try simp only [pS, pN, sA, sB, sC]
    refine tk_done (by kernel_rfl) ?_
    by_cases hcl : x.ty = 7 ∨ x.ty = 11 ∨ x.ty = 14
    · have HU := hide (show upAlt x ak = max ak x.lo by unfold upAlt; rw [if_pos hcl])
      rcases hcl with h | h | h
      all_goals (
       have h7 : (x.ty == 7) = decide (x.ty = 7) := rfl
       have c7 : (x.ty == 7) = true ∨ (x.ty == 7) = false := by cases (x.ty == 7) <;> simp
       have c11 : (x.ty == 11) = true ∨ (x.ty == 11) = false := by cases (x.ty == 11) <;> simp
       have c14 : (x.ty == 14) = true ∨ (x.ty == 14) = false := by cases (x.ty == 14) <;> simp
       clear h7
       rcases c7 with c7 | c7 <;> rcases c11 with c11 | c11 <;> rcases c14 with c14 | c14
       all_goals (
        first
         | (exfalso; simp at c7 c11 c14; omega)
         | (clear h
            go_wp2_with (first | ((with_reducible refine lX ?_); first | refine aL hM rfl rfl ?_ | refine aM hM rfl rfl ?_) | ((with_reducible refine sX ?_); refine aS hM rfl rfl rfl ?_; clear hM; intro W hM) | ((with_reducible refine bX ?_); refine aB hM rfl rfl ?_; clear hM; intro g W hM) | ((with_reducible refine zX ?_); refine aN hM rfl rfl ?_; clear hM; intro g W hM))
            all_goals
             go_roundw
             case rel => exact ⟨k + 1, T.co, upAlt x ak, T.bx, T.b_y, BA, ts ++ [{ T with n := (k : Int) }], by omega, by omega, by simp; omega, rfl, by rw [HU.out], by go_num, hco2, hup, hide (ows_push HOA rfl), HNX, mem_tail (mem_tail (mem_tail hM))⟩
             case measure => simp [intOf]; omega)))
    · have HU := hide (show upAlt x ak = ak by unfold upAlt; rw [if_neg hcl])
      have c7 : (x.ty == 7) = false := by simp; omega
      have c11 : (x.ty == 11) = false := by simp; omega
      have c14 : (x.ty == 14) = false := by simp; omega
      clear hcl
      go_wp2_with (first | ((with_reducible refine lX ?_); first | refine aL hM rfl rfl ?_ | refine aM hM rfl rfl ?_) | ((with_reducible refine sX ?_); refine aS hM rfl rfl rfl ?_; clear hM; intro W hM) | ((with_reducible refine bX ?_); refine aB hM rfl rfl ?_; clear hM; intro g W hM) | ((with_reducible refine zX ?_); refine aN hM rfl rfl ?_; clear hM; intro g W hM))
      all_goals
       go_roundw
       case rel => exact ⟨k + 1, T.co, upAlt x ak, T.bx, T.b_y, BA, ts ++ [{ T with n := (k : Int) }], by omega, by omega, by simp; omega, rfl, by rw [HU.out], by go_num, hco2, hup, hide (ows_push HOA rfl), HNX, mem_tail (mem_tail (mem_tail hM))⟩
       case measure => simp [intOf]; omega
    )
  · have HE := hide (round_end (by omega) HR.out)
    go_wp2_with (first | ((with_reducible refine lX ?_); first | refine aL hM rfl rfl ?_ | refine aM hM rfl rfl ?_) | ((with_reducible refine sX ?_); refine aS hM rfl rfl rfl ?_; clear hM; intro W hM) | ((with_reducible refine bX ?_); refine aB hM rfl rfl ?_; clear hM; intro g W hM) | ((with_reducible refine zX ?_); refine aN hM rfl rfl ?_; clear hM; intro g W hM))
    go_ret3
    exact ⟨_, B, by rw [HE.out]; rfl, by rw [HE.out]; exact HO.out, mem_tail (mem_tail (mem_tail hM))⟩
end Go.Proofs.YtbhpklpkcgcmfaaGreatDoor
