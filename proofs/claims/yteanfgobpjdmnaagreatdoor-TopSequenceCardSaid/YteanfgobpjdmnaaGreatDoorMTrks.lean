/-
  resolve.Tracks for all plans.
-/
import Derived.Test.YteanfgobpjdmnaaGreatDoorMPlan3
import Derived.Test.YteanfgobpjdmnaaGreatDoorMResF
namespace Go.Proofs.YteanfgobpjdmnaaGreatDoor
open Go.RowKit
set_option linter.unusedVariables false
set_option linter.unusedSimpArgs false
theorem tM {w W : World} {L : List zz} (h : qQ w W L) : qQ w W [] := ⟨h.below, (fun _ _ _ h => by cases h), List.nodup_nil⟩
theorem lc : xc Tryz.prog 69 15 120 := by unfold xc; kernel_rfl
theorem Gf {pa pb : ByteArray} {l : List En} {act fx fy c spd bank oalt gr : Int} (h : jN pa pb l act ≠ 0) : qO pa pb l act fx fy c spd bank oalt gr = ([], 0, jN pa pb l act) := by unfold qO; rw [if_pos h]
theorem TK {pa pb : ByteArray} {l : List En} {act fx fy c spd bank oalt gr : Int} (h : jN pa pb l act = 0) (h2 : vA spd bank oalt gr ≠ 0) : qO pa pb l act fx fy c spd bank oalt gr = ([], 0, vA spd bank oalt gr) := by unfold qO; rw [if_neg (by rw [h]; simp), if_pos h2]
theorem nJ {pa pb : ByteArray} {l : List En} {act fx fy c spd bank oalt gr : Int} (h : jN pa pb l act = 0) (h2 : vA spd bank oalt gr = 0) (h3 : qf fx fy = false) : qO pa pb l act fx fy c spd bank oalt gr = ([], 0, 1) := by unfold qO; rw [if_neg (by rw [h]; simp), if_neg (by rw [h2]; simp), if_pos h3]
theorem TM {pa pb : ByteArray} {l : List En} {act fx fy c spd bank oalt gr : Int} (h : jN pa pb l act = 0) (h2 : vA spd bank oalt gr = 0) (h3 : qf fx fy = true) (h4 : decide (0 ≤ c ∧ c < 129600000) = false) : qO pa pb l act fx fy c spd bank oalt gr = ([], 0, 2) := by
 have h5 := of_decide_eq_false h4
 unfold qO; rw [if_neg (by rw [h]; simp), if_neg (by rw [h2]; simp), if_neg (by rw [h3]; simp), if_pos (by omega)]
theorem nK {pa pb : ByteArray} {l : List En} {act fx fy c spd bank oalt gr : Int} (h : jN pa pb l act = 0) (h2 : vA spd bank oalt gr = 0) (h3 : qf fx fy = true) (h4 : decide (0 ≤ c ∧ c < 129600000) = true) :
 qO pa pb l act fx fy c spd bank oalt gr = yf [] (qU spd bank oalt gr (jY l (qN act) (qN act)) (qN act) fx fy c oalt (l.drop (qN act))) := by
 have h5 := of_decide_eq_true h4
 rw [Je]
 have e : jY l (qN act) (qN act) = none := if_pos rfl
 rw [e]
 unfold qO; rw [if_neg (by rw [h]; simp), if_neg (by rw [h2]; simp), if_neg (by rw [h3]; simp), if_neg (by omega)]
theorem Gg {pa pb : ByteArray} {l : List En} {act : Int} (h : jN pa pb l act = 0) : l.length ≤ 60 ∧ (act = -1 ∨ (0 ≤ act ∧ act < l.length)) := by
 unfold jN at h
 split at h
 · cases h
 split at h
 · cases h
 split at h
 · rename_i h3; exact absurd h h3
 split at h
 · cases h
 · omega
theorem TP {e : TypeId} {v : Value} {ts : List Tk} {T : Tk} {cs : List Value} {B : List zz} (h : Jq e 15 v (ts.length + 1) (ts.flatMap Tk.cells ++ cs) B) (hc : cs = T.cells) : Jq e 15 v (ts ++ [T]).length ((ts ++ [T]).flatMap Tk.cells) B := by
 have e1 : (ts ++ [T]).flatMap Tk.cells = ts.flatMap Tk.cells ++ T.cells := by simp [List.flatMap_append]
 rw [e1, List.length_append, ← hc]
 exact h
theorem Kn {act : Int} {n : Nat} (h : act = -1 ∨ (0 ≤ act ∧ act < n)) : ((qN act : Nat) : Int) = max act 0 ∧ qN act ≤ n := by unfold qN; omega
theorem DE : tL JN := ⟨⟨by decide, by decide, by decide, by decide⟩, by unfold qH; decide, by unfold qH; decide, by unfold qH; decide⟩
set_option maxRecDepth 100000 in
set_option maxHeartbeats 16000000 in
theorem Zn (pa pb : ByteArray) (S : Option Addr) (l : List En) (cap : Nat) (act fx fy c spd bank oalt gr : Int) (w : World) (ha : pa.size ≤ maxLen) (hb : pb.size ≤ maxLen) (hp : Hid (xk w S l)) (hxs : Hid (∀ (k : Nat) (x : En), l[k]? = some x → pK x)) (hc : qH c) (ho : qH oalt) (hu : Hid (jq w)) :
 Calls Tryz.prog 9 #[.agg #[.string pa, .string pb, .slice S l.length cap, .int .i64 act], .agg #[.int .i64 fx, .int .i64 fy], .int .i64 c, .agg #[.int .i64 spd, .int .i64 bank, .int .i64 oalt, .int .i64 gr]] w fun e w' => ∃ V B, e = .returned (.tuple #[V, .int .i64 (qO pa pb l act fx fy c spd bank oalt gr).2.1, .int .i64 (qO pa pb l act fx fy c spd bank oalt gr).2.2]) ∧ Jq 69 15 V (qO pa pb l act fx fy c spd bank oalt gr).1.length ((qO pa pb l act fx fy c spd bank oalt gr).1.flatMap Tk.cells) B ∧ qQ w w' B := by
 have PC := fun W h1 h2 => JM pa pb S l cap act W ha hb h1 hxs h2
 have OC := fun W => ju spd bank oalt gr W
 have PV := fun W => qo fx fy W
 have RC := fun W => zF c W
 obtain ⟨R, hR⟩ : ∃ R, qO pa pb l act fx fy c spd bank oalt gr = R := ⟨_, rfl⟩
 rw [hR]
 obtain ⟨E0, hE⟩ : ∃ E0, jN pa pb l act = E0 := ⟨_, rfl⟩
 rw [hE] at PC
 by_cases h1 : E0 = 0
 rotate_left 1
 · have HR : Hid (R = ([], 0, E0)) := hide (by rw [← hR, ← hE]; exact Gf (by rw [hE]; exact h1))
   have hne : (E0 != 0) = true := by simpa using h1
   clear hE hR h1
   have hM := qB w
   go_enter Tryz.func9, Tryz.ntmps9
   go_wp2_with (first | (go_at_call 22; (refine (PC _ (hide (jR hM hp.out)) (hide (qD hM hu.out))).mono ?_); rintro e W1 ⟨rfl, hb⟩; replace hM := qp hM hb; clear hb) | (go_at_call 23; (with_reducible refine cb hM (OC _) ?_); clear hM; intro W1 hM) | (go_at_call 16; (with_reducible refine cb hM (PV _) ?_); clear hM; intro W1 hM) | (go_at_call 24; (with_reducible refine (RC _).mono ?_); rintro e W1 ⟨rfl, rfl⟩) | ((with_reducible refine lX ?_); refine mL ?_) | ((with_reducible refine sX ?_); refine mS ?_; clear hM; intro W hM) | ((with_reducible refine bX ?_); refine mB ?_; clear hM; intro g W hM) | ((with_reducible refine zX ?_); refine mB ?_; clear hM; intro g W hM))
   all_goals
    go_ret3
    exact ⟨.slice none 0 0, [], by rw [HR.out]; rfl, by rw [HR.out]; exact .nil, tM hM⟩
 subst h1
 obtain ⟨E1, hE1⟩ : ∃ E1, vA spd bank oalt gr = E1 := ⟨_, rfl⟩
 rw [hE1] at OC
 by_cases h2 : E1 = 0
 rotate_left 1
 · have HR : Hid (R = ([], 0, E1)) := hide (by rw [← hR, ← hE1]; exact TK hE (by rw [hE1]; exact h2))
   have hne : (E1 != 0) = true := by simpa using h2
   clear hE hE1 hR h2
   have hM := qB w
   go_enter Tryz.func9, Tryz.ntmps9
   go_wp2_with (first | (go_at_call 22; (refine (PC _ (hide (jR hM hp.out)) (hide (qD hM hu.out))).mono ?_); rintro e W1 ⟨rfl, hb⟩; replace hM := qp hM hb; clear hb) | (go_at_call 23; (with_reducible refine cb hM (OC _) ?_); clear hM; intro W1 hM) | (go_at_call 16; (with_reducible refine cb hM (PV _) ?_); clear hM; intro W1 hM) | (go_at_call 24; (with_reducible refine (RC _).mono ?_); rintro e W1 ⟨rfl, rfl⟩) | ((with_reducible refine lX ?_); refine mL ?_) | ((with_reducible refine sX ?_); refine mS ?_; clear hM; intro W hM) | ((with_reducible refine bX ?_); refine mB ?_; clear hM; intro g W hM) | ((with_reducible refine zX ?_); refine mB ?_; clear hM; intro g W hM))
   all_goals
    go_ret3
    exact ⟨.slice none 0 0, [], by rw [HR.out]; rfl, by rw [HR.out]; exact .nil, tM hM⟩
 subst h2
 rcases h3 : qf fx fy with _ | _
 · have HR : Hid (R = ([], 0, 1)) := hide (by rw [← hR]; exact nJ hE hE1 h3)
   rw [h3] at PV
   clear hE hE1 hR h3
   have hM := qB w
   go_enter Tryz.func9, Tryz.ntmps9
   go_wp2_with (first | (go_at_call 22; (refine (PC _ (hide (jR hM hp.out)) (hide (qD hM hu.out))).mono ?_); rintro e W1 ⟨rfl, hb⟩; replace hM := qp hM hb; clear hb) | (go_at_call 23; (with_reducible refine cb hM (OC _) ?_); clear hM; intro W1 hM) | (go_at_call 16; (with_reducible refine cb hM (PV _) ?_); clear hM; intro W1 hM) | (go_at_call 24; (with_reducible refine (RC _).mono ?_); rintro e W1 ⟨rfl, rfl⟩) | ((with_reducible refine lX ?_); refine mL ?_) | ((with_reducible refine sX ?_); refine mS ?_; clear hM; intro W hM) | ((with_reducible refine bX ?_); refine mB ?_; clear hM; intro g W hM) | ((with_reducible refine zX ?_); refine mB ?_; clear hM; intro g W hM))
   all_goals
    go_ret3
    exact ⟨.slice none 0 0, [], by rw [HR.out]; rfl, by rw [HR.out]; exact .nil, tM hM⟩
 rcases h4 : decide (0 ≤ c ∧ c < 129600000) with _ | _
 · have HR : Hid (R = ([], 0, 2)) := hide (by rw [← hR]; exact TM hE hE1 h3 h4)
   rw [h3] at PV
   rw [h4] at RC
   clear hE hE1 hR h3 h4
   have hM := qB w
   go_enter Tryz.func9, Tryz.ntmps9
   go_wp2_with (first | (go_at_call 22; (refine (PC _ (hide (jR hM hp.out)) (hide (qD hM hu.out))).mono ?_); rintro e W1 ⟨rfl, hb⟩; replace hM := qp hM hb; clear hb) | (go_at_call 23; (with_reducible refine cb hM (OC _) ?_); clear hM; intro W1 hM) | (go_at_call 16; (with_reducible refine cb hM (PV _) ?_); clear hM; intro W1 hM) | (go_at_call 24; (with_reducible refine (RC _).mono ?_); rintro e W1 ⟨rfl, rfl⟩) | ((with_reducible refine lX ?_); refine mL ?_) | ((with_reducible refine sX ?_); refine mS ?_; clear hM; intro W hM) | ((with_reducible refine bX ?_); refine mB ?_; clear hM; intro g W hM) | ((with_reducible refine zX ?_); refine mB ?_; clear hM; intro g W hM))
   all_goals
    go_ret3
    exact ⟨.slice none 0 0, [], by rw [HR.out]; rfl, by rw [HR.out]; exact .nil, tM hM⟩
 have HR0 := hide (hR.symm.trans (nK hE hE1 h3 h4))
 rw [h3] at PV
 rw [h4] at RC
 obtain ⟨l60, hact⟩ := Gg hE
 obtain ⟨hbm, hbl⟩ := Kn hact
 have HBM := hide hbm
 clear hE hE1 hR h3 h4 hbm
 have hM := qB w
 go_enter Tryz.func9, Tryz.ntmps9
 go_upto_region 0 with fail
 go_cut [4, 5, 7] (fun s4 s5 s7 wx => ∃ gP gF gO, s4 = .pointer (some ⟨gP, 0, none⟩) ∧ s5 = .pointer (some ⟨gF, 0, none⟩) ∧ s7 = .pointer (some ⟨gO, 0, none⟩) ∧ qQ w wx [(gO, [.int .i64 spd, .int .i64 bank, .int .i64 oalt, .int .i64 gr], 28), (gF, [.int .i64 fx, .int .i64 fy], 26), (gP, [.string pa, .string pb, .slice S l.length cap, .int .i64 act], 24)])
 case first =>
  go_wp2_with (first | (go_at_call 22; (refine (PC _ (hide (jR hM hp.out)) (hide (qD hM hu.out))).mono ?_); rintro e W1 ⟨rfl, hb⟩; replace hM := qp hM hb; clear hb) | (go_at_call 23; (with_reducible refine cb hM (OC _) ?_); clear hM; intro W1 hM) | (go_at_call 16; (with_reducible refine cb hM (PV _) ?_); clear hM; intro W1 hM) | (go_at_call 24; (with_reducible refine (RC _).mono ?_); rintro e W1 ⟨rfl, rfl⟩) | ((with_reducible refine lX ?_); refine mL ?_) | ((with_reducible refine sX ?_); refine mS ?_; clear hM; intro W hM) | ((with_reducible refine bX ?_); refine mB ?_; clear hM; intro g W hM) | ((with_reducible refine zX ?_); refine mB ?_; clear hM; intro g W hM))
  all_goals
   go_meet
   exact ⟨_, _, _, rfl, rfl, rfl, hM⟩
 case rest =>
 clear hM
 obtain ⟨gP, gF, gO, rfl, rfl, rfl, hM⟩ := hcut
 go_upto_region 12 with (first | (go_at_call 22; (refine (PC _ (hide (jR hM hp.out)) (hide (qD hM hu.out))).mono ?_); rintro e W1 ⟨rfl, hb⟩; replace hM := qp hM hb; clear hb) | (go_at_call 23; (with_reducible refine cb hM (OC _) ?_); clear hM; intro W1 hM) | (go_at_call 16; (with_reducible refine cb hM (PV _) ?_); clear hM; intro W1 hM) | (go_at_call 24; (with_reducible refine (RC _).mono ?_); rintro e W1 ⟨rfl, rfl⟩) | ((with_reducible refine lX ?_); refine mL ?_) | ((with_reducible refine sX ?_); refine mS ?_; clear hM; intro W hM) | ((with_reducible refine zX ?_); refine mB ?_; clear hM; intro g W hM))
 refine bF hM (by kernel_rfl) ?_; (clear hM; intro W hM hK)
 refine kP 0 hM hK ?_
 try simp only [pS, pN, sA, sB, sC]
 first | refine kL 1 hM hK ?_ | refine kM 1 hM hK ?_
 try simp only [pS, pN, sA, sB, sC]
 refine kP 2 hM hK ?_
 try simp only [pS, pN, sA, sB, sC]
 first | refine kL 3 hM hK ?_ | refine kM 3 hM hK ?_
 try simp only [pS, pN, sA, sB, sC]
 refine kP 4 hM hK ?_
 try simp only [pS, pN, sA, sB, sC]
 refine kP 5 hM hK ?_
 try simp only [pS, pN, sA, sB, sC]
 refine kP 6 hM hK ?_
 try simp only [pS, pN, sA, sB, sC]
 refine qE (by kernel_rfl) ?_
 rw [← HBM.out]
 have HRK := HR0
 clear HR0
 go_wp2_with (first | ((with_reducible refine lX ?_); refine mL ?_) | ((with_reducible refine sX ?_); refine mS ?_; clear hM; intro W hM) | ((with_reducible refine zX ?_); refine mB ?_; clear hM; intro g W hM))
 go_loopw [2, 13, 14, 16] (fun cc v al i W => ∃ (k : Nat) (ck ak fxk fyk : Int) (B : List zz) (ts : List Tk), qN act ≤ k ∧ k ≤ l.length ∧ ts.length ≤ k ∧ cc = .int .i64 ck ∧ al = .int .i64 ak ∧ i = .int .i64 (k : Int) ∧ qH ck ∧ qH ak ∧ Hid (Jq 69 15 v ts.length (ts.flatMap Tk.cells) B) ∧ Hid (R = yf ts (qU spd bank oalt gr (jY l (qN act) k) k fxk fyk ck ak (l.drop k))) ∧ qQ w W ((gO, [.int .i64 spd, .int .i64 bank, .int .i64 oalt, .int .i64 gr], 28) :: (gF, [.int .i64 fxk, .int .i64 fyk], 26) :: (gP, [.string pa, .string pb, .slice S l.length cap, .int .i64 act], 24) :: B)) (fun _ _ _ i _ => l.length - (intOf i).toNat)
 case atStart => exact ⟨qN act, c, oalt, fx, fy, [], [], Nat.le_refl _, hbl, by simp, rfl, rfl, rfl, hc, ho, hide .nil, HRK, hM⟩
 case round =>
  clear hM HRK
  obtain ⟨k, ck, ak, fxk, fyk, B, ts, hbk, hkl, hts, rfl, rfl, rfl, hck, hak, HO, HR, hM⟩ := hrel
  by_cases hlt : k < l.length
  · (
    obtain ⟨x, hx⟩ : ∃ x, l[k]? = some x := ⟨_, List.getElem?_eq_getElem hlt⟩
    obtain ⟨b, o, rfl, hat⟩ := hp.out k x hx
    have hxw := hxs.out k x hx
    have HX := hide hx
    clear hx
    go_upto_region 17 with (first | ((with_reducible refine jK ?_); refine uT hM rfl (by first | exact rfl | (go_simp; done)) rfl (BC rfl) hat (Qu rfl) ?_) | ((with_reducible refine lX ?_); refine mL ?_) | ((with_reducible refine sX ?_); refine mS ?_; clear hM; intro W hM) | ((with_reducible refine zX ?_); refine mB ?_; clear hM; intro g W hM))
    obtain ⟨gx, rfl⟩ : ∃ gx, gx = g := ⟨_, rfl⟩
    clear hat
    rcases hgp : x.gap with _ | _
    rotate_left 1
    · -- a discontinuity
      go_wp2_with (first | ((with_reducible refine lX ?_); refine mL ?_) | ((with_reducible refine sX ?_); refine mS ?_; clear hM; intro W hM) | ((with_reducible refine zX ?_); refine mB ?_; clear hM; intro g W hM))
      all_goals first
       | (exact absurd hgp (Bool.eq_false_iff.1 (by assumption)))
       | (go_roundw; (case rel => exact ⟨k + 1, ck, ak, fxk, fyk, B, ts, by omega, by omega, by omega, rfl, rfl, by go_num, hck, hak, HO, hide (fG HX.out hbk hgp HR.out), jU hM⟩); (case measure => simp [intOf]; omega))
    have hpre : Hid (jY l (qN act) k = none ∧ k = qN act) ∨ ∃ (j : Nat) (y : En), k = j + 1 ∧ qN act < k ∧ Hid (jY l (qN act) k = some y) ∧ uy w b (o + j * 20) y := by
     rcases Nat.eq_or_lt_of_le hbk with h0 | h0
     · exact .inl (hide ⟨by unfold jY; rw [if_pos h0.symm], h0.symm⟩)
     · obtain ⟨j, rfl⟩ : ∃ j, k = j + 1 := ⟨k - 1, by omega⟩
       obtain ⟨y, hy⟩ : ∃ y, l[j]? = some y := ⟨_, List.getElem?_eq_getElem (by omega)⟩
       obtain ⟨b2, o2, e, h2⟩ := hp.out j y hy
       injection e with e
       injection e with e1 e2
       subst e1 e2
       exact .inr ⟨j, y, rfl, h0, hide (by unfold jY; rw [if_neg (by omega), Nat.add_sub_cancel]; exact hy), h2⟩
    have HP := hide hpre
    clear hpre
    obtain ⟨y, hy⟩ : ∃ y, (l[k + 1]?).getD JN = y := ⟨_, rfl⟩
    have HY := hide hy
    clear hy
    obtain ⟨Q, hQ⟩ : ∃ Q, Zk (jY l (qN act) k) = Q := ⟨_, rfl⟩
    have HQ := hide hQ
    clear hQ
    go_upto_region 19 with (first | ((with_reducible refine lX ?_); refine mL ?_) | ((with_reducible refine sX ?_); refine mS ?_; clear hM; intro W hM) | ((with_reducible refine zX ?_); refine mB ?_; clear hM; intro g W hM))
    all_goals first
     | (exact absurd (by assumption) (Bool.eq_false_iff.1 hgp))
     | skip
    obtain ⟨gt, rfl⟩ : ∃ gt, gt = g := ⟨_, rfl⟩
    try simp only [pS, pN, sA, sB, sC]
    go_cut [70] (fun s wx => s = .bool Q ∧ qQ w wx ((gt, Tk.zero.cells, 69) :: (gx, x.cells, 39) :: (gO, [.int .i64 spd, .int .i64 bank, .int .i64 oalt, .int .i64 gr], 28) :: (gF, [.int .i64 fxk, .int .i64 fyk], 26) :: (gP, [.string pa, .string pb, .slice (some ⟨b, o, none⟩) l.length cap, .int .i64 act], 24) :: B))
    case first =>
     rcases HP.out with h0 | ⟨j, y0, rfl, hbl, hpv, hy⟩
     · have hq0 : Q = false := by rw [← HQ.out, h0.out.1]; rfl
       have hge : k ≤ qN act := by have := h0.out.2; omega
       have hgt0 : decide ((qN act : Int) < (k : Int)) = false := decide_eq_false (by omega)
       have hgt1 : decide (qN act < k) = false := decide_eq_false (by omega)
       clear h0 HP
       subst hq0
       go_wp2_with (first | ((with_reducible refine lX ?_); refine mL ?_) | ((with_reducible refine sX ?_); refine mS ?_; clear hM; intro W hM) | ((with_reducible refine zX ?_); refine mB ?_; clear hM; intro g W hM))
       all_goals
        go_meet
        exact ⟨rfl, hM⟩
     · have hyg := QD hy
       have hq0 : Q = y0.gap := by rw [← HQ.out, hpv.out]; rfl
       subst hq0
       have jb : (j : Int) ≤ 60 := by omega
       have iw : IntKind.i64.wrap ((j : Int) + 1 - 1) = j := by rw [show (j : Int) + 1 - 1 = j by omega]; exact IntWalk.i64_in _ (by omega)
       have hz : decide ((qN act : Int) < (j : Int) + 1) = true := decide_eq_true (by omega)
       have hz1 : decide (qN act < j + 1) = true := decide_eq_true (by omega)
       clear HP hpv
       go_wp2_with (first | ((with_reducible refine jK ?_); refine QE hM rfl (by first | exact rfl | (go_simp; done)) rfl (mT rfl) hyg ?_) | ((with_reducible refine lX ?_); refine mL ?_) | ((with_reducible refine sX ?_); refine mS ?_; clear hM; intro W hM) | ((with_reducible refine zX ?_); refine mB ?_; clear hM; intro g W hM))
       all_goals
        go_meet
        exact ⟨rfl, hM⟩
    case rest =>
    clear hM
    obtain ⟨rfl, hM⟩ := hcut
    go_upto_if 70 with (first | ((with_reducible refine lX ?_); refine mL ?_) | ((with_reducible refine sX ?_); refine mS ?_; clear hM; intro W hM) | ((with_reducible refine zX ?_); refine mB ?_; clear hM; intro g W hM))
    try simp only [pS, pN, sA, sB, sC]
    go_cut [18] (fun s wx => ∃ T : Tk, s = .pointer (some ⟨gt, 0, none⟩) ∧ Hid (qP (jY l (qN act) k) fxk fyk ck ak x y spd bank oalt gr = (T, 0)) ∧ qQ w wx ((gt, T.cells, 69) :: (gx, x.cells, 39) :: (gO, [.int .i64 spd, .int .i64 bank, .int .i64 oalt, .int .i64 gr], 28) :: (gF, [.int .i64 fxk, .int .i64 fyk], 26) :: (gP, [.string pa, .string pb, .slice (some ⟨b, o, none⟩) l.length cap, .int .i64 act], 24) :: B))
    case first =>
     rcases Q with _ | _
     rotate_left 1
     · have HT := hide (show qP (jY l (qN act) k) fxk fyk ck ak x y spd bank oalt gr = (Uv x ck, 0) by unfold qP; rw [if_pos HQ.out])
       have ST : ∀ W, Calls _ _ _ _ _ := fun W => vQ x.ex x.ey x.ex x.ey ck W
       have e1 : qY x.ex x.ey x.ex x.ey ck = fO 1 x.ex x.ey x.ex x.ey ck 0 := by unfold qY; rw [if_pos ⟨rfl, rfl⟩]
       rw [e1] at ST
       clear e1
       by_cases ht3 : x.ty = 3
       · have q3 : (x.ty == 3) = true := by simpa using ht3
         have HG := hide (show Uv x ck = ⟨1, x.ex, x.ey, x.ex, x.ey, 0, 0, 0, 0, 0, x.crs, x.crs, 0, 0, true⟩ by unfold Uv; rw [if_pos ht3])
         clear ht3
         go_upto_region 23 with (first | (go_at_call 25; (with_reducible refine cb hM (ST _) ?_); clear hM; intro W1 hM) | ((with_reducible refine lX ?_); refine mL ?_) | ((with_reducible refine sX ?_); refine mS ?_; clear hM; intro W hM) | ((with_reducible refine zX ?_); refine mB ?_; clear hM; intro g W hM))
         refine' bE hM (by kernel_rfl) (.tmp 18) rfl ?_ ?_; rotate_left 1; (· repeat constructor); (clear hM; intro W hM hK hne)
         refine kP 0 hM hK ?_
         try simp only [pS, pN, sA, sB, sC]
         refine kP 1 hM hK ?_
         try simp only [pS, pN, sA, sB, sC]
         first | refine kL 2 hM hK ?_ | refine kM 2 hM hK ?_
         try simp only [pS, pN, sA, sB, sC]
         refine kP 3 hM hK ?_
         try simp only [pS, pN, sA, sB, sC]
         refine kP 4 hM hK ?_
         try simp only [pS, pN, sA, sB, sC]
         first | refine kL 5 hM hK ?_ | refine kM 5 hM hK ?_
         try simp only [pS, pN, sA, sB, sC]
         refine kP 6 hM hK ?_
         try simp only [pS, pN, sA, sB, sC]
         refine' yK hM (i := 7) (jL rfl) (by kernel_rfl) rfl rfl rfl ?_ ?_ ?_ ?_ ?_ ?_ ?_ hK hne ?_; rotate_left 6; (· constructor); (· repeat constructor); (· repeat constructor); (· repeat constructor); (· exact Qu rfl); (· rfl); (· exact jC rfl); (clear hM hK; intro W hM hK)
         try simp only [pS, pN, sA, sB, sC]
         refine kP 8 hM hK ?_
         try simp only [pS, pN, sA, sB, sC]
         refine' yK hM (i := 9) (jL rfl) (by kernel_rfl) rfl rfl rfl ?_ ?_ ?_ ?_ ?_ ?_ ?_ hK hne ?_; rotate_left 6; (· constructor); (· repeat constructor); (· repeat constructor); (· repeat constructor); (· exact Qu rfl); (· rfl); (· exact jC rfl); (clear hM hK; intro W hM hK)
         try simp only [pS, pN, sA, sB, sC]
         refine qE (by kernel_rfl) ?_
         go_wp2_with (first | ((with_reducible refine lX ?_); refine mL ?_) | ((with_reducible refine sX ?_); refine mS ?_; clear hM; intro W hM) | ((with_reducible refine zX ?_); refine mB ?_; clear hM; intro g W hM))
         all_goals
          go_meet
          exact ⟨⟨1, x.ex, x.ey, x.ex, x.ey, 0, 0, 0, 0, 0, x.crs, x.crs, 0, 0, true⟩, rfl, hide (HT.out.trans (by rw [HG.out])), hM⟩
       · have q3 : (x.ty == 3) = false := by simpa using ht3
         have HG := hide (show Uv x ck = ⟨1, x.ex, x.ey, x.ex, x.ey, 0, 0, 0, 0, 0, ck, ck, 0, 0, true⟩ by unfold Uv; rw [if_neg ht3])
         clear ht3
         go_wp2_with (first | (go_at_call 25; (with_reducible refine cb hM (ST _) ?_); clear hM; intro W1 hM) | ((with_reducible refine lX ?_); refine mL ?_) | ((with_reducible refine sX ?_); refine mS ?_; clear hM; intro W hM) | ((with_reducible refine zX ?_); refine mB ?_; clear hM; intro g W hM))
         all_goals
          go_meet
          exact ⟨⟨1, x.ex, x.ey, x.ex, x.ey, 0, 0, 0, 0, 0, ck, ck, 0, 0, true⟩, rfl, hide (HT.out.trans (by rw [HG.out])), hM⟩
     · have HT := hide (show qP (jY l (qN act) k) fxk fyk ck ak x y spd bank oalt gr = qg fxk fyk ck ak x y spd bank oalt gr by unfold qP; rw [if_neg (by rw [HQ.out]; simp)])
       have hyw : tL y := by
        by_cases hl2 : k + 1 < l.length
        · have h1 : l[k + 1]? = some y := by
           have h2 := HY.out
           rw [List.getElem?_eq_getElem hl2] at h2 ⊢
           exact congrArg some h2
          exact (hxs.out _ _ h1).w
        · have h2 := HY.out
          rw [List.getElem?_eq_none (by omega)] at h2
          rw [← h2]
          exact DE
       have RS := fun W hW => Tu fxk fyk ck ak x y spd bank oalt gr hxw.w hyw hak hck W hW
       obtain ⟨T, e, hTe⟩ : ∃ T e, qg fxk fyk ck ak x y spd bank oalt gr = (T, e) := ⟨_, _, rfl⟩
       rw [hTe] at RS
       have HT2 := hide (HT.out.trans hTe)
       simp only [En.cells, hgp] at RS
       clear hTe HT
       have kb : (k : Int) ≤ 60 := by omega
       have iw : IntKind.i64.wrap ((k : Int) + 1) = (k : Int) + 1 := IntWalk.i64_in _ (by omega)
       have hnext : Hid (k + 1 < l.length ∧ uy w b (o + (k + 1) * 20) y) ∨ Hid (l.length ≤ k + 1 ∧ y = JN) := by
        by_cases hl2 : k + 1 < l.length
        · have h1 : l[k + 1]? = some y := by
           have h2 := HY.out
           rw [List.getElem?_eq_getElem hl2] at h2 ⊢
           exact congrArg some h2
          obtain ⟨b2, o2, e, h2⟩ := hp.out _ _ h1
          injection e with e
          injection e with e1 e2
          subst e1 e2
          exact .inl (hide ⟨hl2, h2⟩)
        · have h2 := HY.out
          rw [List.getElem?_eq_none (by omega)] at h2
          exact .inr (hide ⟨by omega, h2.symm⟩)
       have HNE := hide hnext
       clear hnext
       by_cases he : e = 0
       · subst he
         rcases HNE.out with h | h
         · have k1 : (k : Int) + 1 < (l.length : Int) := by have := h.out.1; omega
           have hatn := h.out.2
           clear HNE h
           go_wp2_with (first | (go_at_call 26; (with_reducible refine (RS _ (hide (qD hM hu.out))).mono ?_); rintro e W1 ⟨rfl, hb⟩; replace hM := qp hM hb; clear hb) | ((with_reducible refine jK ?_); refine uT hM rfl (by first | exact rfl | (go_simp; done)) rfl (BC rfl) hatn (Qu rfl) ?_) | ((with_reducible refine lX ?_); refine mL ?_) | ((with_reducible refine sX ?_); refine mS ?_; clear hM; intro W hM) | ((with_reducible refine zX ?_); refine mB ?_; clear hM; intro g W hM))
           all_goals
            go_meet
            exact ⟨T, rfl, HT2, jU hM⟩
         · have k1 : ¬ ((k : Int) + 1 < (l.length : Int)) := by have := h.out.1; omega
           obtain rfl := h.out.2
           simp only [JN] at RS
           clear HNE h
           go_wp2_with (first | (go_at_call 26; (with_reducible refine (RS _ (hide (qD hM hu.out))).mono ?_); rintro e W1 ⟨rfl, hb⟩; replace hM := qp hM hb; clear hb) | ((with_reducible refine jK ?_); refine uT hM rfl (by first | exact rfl | (go_simp; done)) rfl (BC rfl) hatn (Qu rfl) ?_) | ((with_reducible refine lX ?_); refine mL ?_) | ((with_reducible refine sX ?_); refine mS ?_; clear hM; intro W hM) | ((with_reducible refine zX ?_); refine mB ?_; clear hM; intro g W hM))
           all_goals
            go_meet
            exact ⟨T, rfl, HT2, jU hM⟩
       · have HE := hide (fH HX.out HY.out hgp HT2.out he HR.out)
         have hne : (e != 0) = true := by simpa using he
         rcases HNE.out with h | h
         · have k1 : (k : Int) + 1 < (l.length : Int) := by have := h.out.1; omega
           have hatn := h.out.2
           clear HNE h he
           go_wp2_with (first | (go_at_call 26; (with_reducible refine (RS _ (hide (qD hM hu.out))).mono ?_); rintro e W1 ⟨rfl, hb⟩; replace hM := qp hM hb; clear hb) | ((with_reducible refine jK ?_); refine uT hM rfl (by first | exact rfl | (go_simp; done)) rfl (BC rfl) hatn (Qu rfl) ?_) | ((with_reducible refine lX ?_); refine mL ?_) | ((with_reducible refine sX ?_); refine mS ?_; clear hM; intro W hM) | ((with_reducible refine zX ?_); refine mB ?_; clear hM; intro g W hM))
           all_goals
            go_ret3
            exact ⟨.slice none 0 0, [], by rw [HE.out]; rfl, by rw [HE.out]; exact .nil, tM hM⟩
         · have k1 : ¬ ((k : Int) + 1 < (l.length : Int)) := by have := h.out.1; omega
           obtain rfl := h.out.2
           simp only [JN] at RS
           clear HNE h he
           go_wp2_with (first | (go_at_call 26; (with_reducible refine (RS _ (hide (qD hM hu.out))).mono ?_); rintro e W1 ⟨rfl, hb⟩; replace hM := qp hM hb; clear hb) | ((with_reducible refine jK ?_); refine uT hM rfl (by first | exact rfl | (go_simp; done)) rfl (BC rfl) hatn (Qu rfl) ?_) | ((with_reducible refine lX ?_); refine mL ?_) | ((with_reducible refine sX ?_); refine mS ?_; clear hM; intro W hM) | ((with_reducible refine zX ?_); refine mB ?_; clear hM; intro g W hM))
           all_goals
            go_ret3
            exact ⟨.slice none 0 0, [], by rw [HE.out]; rfl, by rw [HE.out]; exact .nil, tM hM⟩
    case rest =>
    clear hM
    obtain ⟨T, rfl, HT, hM⟩ := hcut
    have hco := fK (jY l (qN act) k) fxk fyk ak y spd bank oalt gr hck hxw.w.crs
    have HNX := hide (fI HX.out HY.out hbk hgp HT.out HR.out)
    have hco2 : qH T.co := by
     have h2 := hco (by rw [HT.out])
     rw [HT.out] at h2
     exact h2
    have hup : qH (kN x ak) := Dc hak hxw.lo
    have l61 : k + 1 ≤ 61 := by omega
    clear hco HT
    go_upto_region 33 with (first | ((with_reducible refine MI ?_); refine' fg hM rfl rfl ?_ Tryz.underlying60 lc ?_ (by decide) (by decide) ?_; rotate_left 1; (· constructor); (· rfl); (clear hM; intro g W hM)) | ((with_reducible refine wV ?_); refine' fe hM rfl rfl rfl rfl HO.out ?_ Tryz.underlying60 lc ?_ ?_ ?_ ?_ ?_ ?_ ?_; rotate_left 1; (· repeat constructor); rotate_left 2; (· repeat constructor); (· rfl); (· exact jC rfl); (· decide); (· omega); (· (unfold maxLen; omega)); (clear hM; intro ga capA BA W HOA hM; simp only [List.cons_append, List.nil_append] at hM)) | ((with_reducible refine lX ?_); refine mL ?_) | ((with_reducible refine sX ?_); refine mS ?_; clear hM; intro W hM) | ((with_reducible refine zX ?_); refine mB ?_; clear hM; intro g W hM))
    refine' bE hM (by kernel_rfl) (.tmp 5) rfl ?_ ?_; rotate_left 1; (· repeat constructor); (clear hM; intro W hM hK hne)
    refine kP 0 hM hK ?_
    try simp only [pS, pN, sA, sB, sC]
    first | refine kL 1 hM hK ?_ | refine kM 1 hM hK ?_
    try simp only [pS, pN, sA, sB, sC]
    refine kP 2 hM hK ?_
    try simp only [pS, pN, sA, sB, sC]
    first | refine kL 3 hM hK ?_ | refine kM 3 hM hK ?_
    try simp only [pS, pN, sA, sB, sC]
    refine' yK hM (i := 4) (jL rfl) (by kernel_rfl) rfl rfl rfl ?_ ?_ ?_ ?_ ?_ ?_ ?_ hK hne ?_; rotate_left 6; (· constructor); (· repeat constructor); (· repeat constructor); (· repeat constructor); (· exact Qu rfl); (· rfl); (· exact jC rfl); (clear hM hK; intro W hM hK)
    try simp only [pS, pN, sA, sB, sC]
    refine kP 5 hM hK ?_
    try simp only [pS, pN, sA, sB, sC]
    refine qE (by kernel_rfl) ?_
    by_cases hcl : x.ty = 7 ∨ x.ty = 11 ∨ x.ty = 14
    · have HU := hide (show kN x ak = max ak x.lo by unfold kN; rw [if_pos hcl])
      rcases hcl with h | h | h
      all_goals (
       have h7 : (x.ty == 7) = decide (x.ty = 7) := rfl
       have c7 : (x.ty == 7) = true ∨ (x.ty == 7) = false := by cases (x.ty == 7) <;> simp
       have c11 : (x.ty == 11) = true ∨ (x.ty == 11) = false := by cases (x.ty == 11) <;> simp
       have c14 : (x.ty == 14) = true ∨ (x.ty == 14) = false := by cases (x.ty == 14) <;> simp
       clear h7
       rcases c7 with c7 | c7 <;> rcases c11 with c11 | c11 <;> rcases c14 with c14 | c14
       all_goals (
        first
         | (exfalso; simp at c7 c11 c14; omega)
         | (clear h
            go_wp2_with (first | ((with_reducible refine lX ?_); refine mL ?_) | ((with_reducible refine sX ?_); refine mS ?_; clear hM; intro W hM) | ((with_reducible refine zX ?_); refine mB ?_; clear hM; intro g W hM))
            all_goals
             go_roundw
             case rel => exact ⟨k + 1, T.co, kN x ak, T.bx, T.b_y, BA, ts ++ [{ T with n := (k : Int) }], by omega, by omega, by simp; omega, rfl, by rw [HU.out], by go_num, hco2, hup, hide (TP HOA rfl), HNX, jU (jU (jU hM))⟩
             case measure => simp [intOf]; omega)))
    · have HU := hide (show kN x ak = ak by unfold kN; rw [if_neg hcl])
      have c7 : (x.ty == 7) = false := by simp; omega
      have c11 : (x.ty == 11) = false := by simp; omega
      have c14 : (x.ty == 14) = false := by simp; omega
      clear hcl
      go_wp2_with (first | ((with_reducible refine lX ?_); refine mL ?_) | ((with_reducible refine sX ?_); refine mS ?_; clear hM; intro W hM) | ((with_reducible refine zX ?_); refine mB ?_; clear hM; intro g W hM))
      all_goals
       go_roundw
       case rel => exact ⟨k + 1, T.co, kN x ak, T.bx, T.b_y, BA, ts ++ [{ T with n := (k : Int) }], by omega, by omega, by simp; omega, rfl, by rw [HU.out], by go_num, hco2, hup, hide (TP HOA rfl), HNX, jU (jU (jU hM))⟩
       case measure => simp [intOf]; omega
    )
  · have HE := hide (fJ (by omega) HR.out)
    go_wp2_with (first | ((with_reducible refine lX ?_); refine mL ?_) | ((with_reducible refine sX ?_); refine mS ?_; clear hM; intro W hM) | ((with_reducible refine zX ?_); refine mB ?_; clear hM; intro g W hM))
    go_ret3
    exact ⟨_, B, by rw [HE.out]; rfl, by rw [HE.out]; exact HO.out, jU (jU (jU hM))⟩
end Go.Proofs.YteanfgobpjdmnaaGreatDoor
