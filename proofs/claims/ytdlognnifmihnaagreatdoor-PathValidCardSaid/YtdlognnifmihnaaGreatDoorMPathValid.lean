/-
  The walk of the law: a path that is built is sound.
-/
import Derived.Test.YtdlognnifmihnaaGreatDoorMNode
import Derived.Test.YtdlognnifmihnaaGreatDoorMPathOkB
import Derived.Test.YtdlognnifmihnaaGreatDoorMPlanIn
import Derived.Test.YtdlognnifmihnaaGreatDoorCards
import Derived.Test.YtdlognnifmihnaaGreatDoorTie
set_option maxRecDepth 100000
set_option maxHeartbeats 16000000
namespace Go.Proofs.YtdlognnifmihnaaGreatDoor
open Go.RowKit
set_option linter.unusedVariables false
set_option linter.unusedSimpArgs false
theorem ZU {w W0 W' : World} {L B : List zz} (h : qQ w W0 L) (k : qQ W0 W' B) : qQ w W' (L ++ B) := by
 have h1 := qp h k.below
 refine ⟨h1.below, fun g cs t hm => ?_, ?_⟩
 · rcases List.mem_append.1 hm with hm | hm
   · exact h1.rows g cs t hm
   · have := k.rows g cs t hm
     exact ⟨Nat.le_trans h.below.size this.1, this.2⟩
 · rw [List.map_append, List.nodup_append]
   refine ⟨h.nodup, k.nodup, fun a ha b hb he => ?_⟩
   obtain ⟨⟨x1, x2, x3⟩, hx, e1⟩ := List.mem_map.1 ha
   obtain ⟨⟨y1, y2, y3⟩, hy, e2⟩ := List.mem_map.1 hb
   have q1 := h.lt hx
   have q2 := (k.rows y1 y2 y3 hy).1
   simp only at e1 e2
   omega
theorem JH {w W : World} {L B : List zz} {SV : Option Addr} {n capV : Nat} {els : List El} {m : Nat} (hM : qQ w W L) (hO : bG (.slice SV n capV) els B m) (hB : ∀ b ∈ B, b ∈ L) : yI W SV els := by
 intro k x hk
 obtain ⟨g, cap, cur, e, rfl, hcur⟩ := uY hO (by have := (List.getElem?_eq_some_iff.1 hk).1; omega)
 injection e with e1 e2 e3
 subst e1
 refine ⟨g, 0, rfl, ?_⟩
 have hr := Qb hcur rfl hk
 have hg := hM.rows g cur _ (hB _ (.head _))
 have key : ∀ (i : Nat) (v : Value), x.cells[i]? = some v → W.cell? ⟨g, k * 13 + i, none⟩ = some v := fun i v hv => by
  rw [cell_of_row W g _ cur.toArray _ (0, 0) hg.2]
  have hi : i < 13 := (List.getElem?_eq_some_iff.1 hv).1
  rw [← hr, List.getElem?_take, if_pos hi, List.getElem?_drop] at hv
  simpa using hv
 rw [Nat.zero_add]
 exact ⟨key 0 _ rfl, key 1 _ rfl, key 2 _ rfl, key 3 _ rfl, key 4 _ rfl, key 5 _ rfl, key 6 _ rfl, key 7 _ rfl, key 8 _ rfl, key 9 _ rfl, key 10 _ rfl, key 11 _ rfl, key 12 _ rfl⟩
theorem YJ {cur : List Value} {els : List El} {k : Nat} {x : El} (hcur : cur.take (els.length * 13) = els.flatMap El.cells) (hx : els[k]? = some x) {i : Nat} {v : Value} (hv : x.cells[i]? = some v) : cur[k * 13 + i]? = some v := by
 have hi : i < 13 := (List.getElem?_eq_some_iff.1 hv).1
 rw [← Qb hcur rfl hx, List.getElem?_take, if_pos hi, List.getElem?_drop] at hv
 exact hv
theorem JI {l : List En} {fx fy : Int} {R : Int × Int} {T : List Tk × Int × Int} (h : (ji l fx fy R T).2.2 ≠ 0) : (ji l fx fy R T).1 = [] := by
 unfold ji at h ⊢
 by_cases h1 : T.2.2 ≠ 0
 · rw [if_pos h1]
 rw [if_neg h1] at h ⊢
 by_cases h2 : R.2 ≠ 0
 · rw [if_pos h2]
 rw [if_neg h2] at h ⊢
 generalize T.1 = ts at *
 cases ts with
 | nil => rfl
 | cons x r =>
   dsimp only at h ⊢
   by_cases h3 : (ze l R.1 true false ⟨[], fx, fy, false⟩ x r).2.2 ≠ 0
   · rw [if_pos h3]
   rw [if_neg h3] at h ⊢
   by_cases h4 : ((ze l R.1 true false ⟨[], fx, fy, false⟩ x r).1.els.length : Int) > 500
   · rw [if_pos h4]
   rw [if_neg h4] at h
   exact absurd rfl h
theorem bI {W : World} (pa pb : ByteArray) (S : Option Addr) (l : List En) (cap : Nat) (act : Int) (s0 s1 s2 s3 s4 s5 s6 s7 : Int) (ha : pa.size ≤ maxLen) (hb : pb.size ≤ maxLen) (hact : qH act) (hp : Hid (xk W S l)) (hxs : Hid (∀ (k : Nat) (x : En), l[k]? = some x → pK x)) (hs0 : qH s0) (hs1 : qH s1) (hs2 : qH s2) (hs3 : qH s3) (hs4 : qH s4) (hs5 : qH s5) (hs6 : qH s6) (hs7 : qH s7) (hL : laidMetH Tryz.prog gh W) (w : World) (hw : w = W := by rfl) :
 Calls Tryz.prog 4 #[.agg #[.string pa, .string pb, .slice S l.length cap, .int .i64 act], .agg #[.int .i64 s0, .int .i64 s1, .int .i64 s2, .int .i64 s3, .int .i64 s4, .int .i64 s5, .int .i64 s6, .int .i64 s7]] w fun e w' => e = .returned (.bool true) ∧ Below w.heap.size w w' := by
 subst hw
 have hu := hide (Bs hL)
 clear hL
 have BA := fun W h1 h2 => Qp pa pb S l cap act s0 s1 s2 s4 s5 s6 s7 W ha hb h1 hxs hs2 hs6 h2
 obtain ⟨Q, hQ⟩ : ∃ Q, ji l s0 s1 (bC s4 s5) (qO pa pb l act s0 s1 s2 s4 s5 s6 s7) = Q := ⟨_, rfl⟩
 rw [hQ] at BA
 have HQ := hide hQ
 obtain ⟨els, idx, er⟩ := Q
 by_cases he : er = 0
 rotate_left 1
 · obtain rfl : els = [] := by
    have h := JI (l := l) (fx := s0) (fy := s1) (R := bC s4 s5) (T := qO pa pb l act s0 s1 s2 s4 s5 s6 s7) (by rw [hQ]; exact he)
    rw [hQ] at h
    exact h
   have hne : (er != 0) = true := by simpa using he
   clear he hQ HQ
   have hM := qB w
   go_enter Tryz.func4, Tryz.ntmps4
   go_upto_region 0 with (first | ((with_reducible refine lX ?_); refine mL ?_) | ((with_reducible refine sX ?_); refine mS ?_; clear hM; intro W hM) | ((with_reducible refine bX ?_); refine mB ?_; clear hM; intro g W hM) | ((with_reducible refine zX ?_); refine mB ?_; clear hM; intro g W hM))
   go_cut [2, 3] (fun t2 t3 wx => ∃ gP gS, t2 = .pointer (some ⟨gP, 0, none⟩) ∧ t3 = .pointer (some ⟨gS, 0, none⟩) ∧ qQ w wx [(gS, [.int .i64 s0, .int .i64 s1, .int .i64 s2, .int .i64 s3, .int .i64 s4, .int .i64 s5, .int .i64 s6, .int .i64 s7], 30), (gP, [.string pa, .string pb, .slice S l.length cap, .int .i64 act], 24)])
   case first =>
    go_wp2_with (first | ((with_reducible refine lX ?_); refine mL ?_) | ((with_reducible refine sX ?_); refine mS ?_; clear hM; intro W hM) | ((with_reducible refine bX ?_); refine mB ?_; clear hM; intro g W hM) | ((with_reducible refine zX ?_); refine mB ?_; clear hM; intro g W hM))
    all_goals
     go_meet
     exact ⟨_, _, rfl, rfl, hM⟩
   case rest =>
   clear hM
   obtain ⟨gP, gS, rfl, rfl, hM⟩ := hcut
   go_wp2_with (first | (go_at_call 11; (with_reducible refine cb hM (bU _ (hide (qD hM hu.out))) ?_); clear hM; intro W1 hM) | (go_at_call 7; (with_reducible refine (BA _ (hide (jR hM hp.out)) (hide (qD hM hu.out))).mono ?_); rintro e W1 ⟨V, len, B, rfl, hO, hlen, hB⟩; replace hM := ZU hM hB; clear hB; simp only [List.cons_append, List.nil_append] at hM; obtain ⟨SV, capV, hVV⟩ := ut hO.1; subst hVV; have HO := hide hO; clear hO; have hl0 : len = 0 := hlen; subst hl0; clear hlen) | ((with_reducible refine lX ?_); refine mL ?_) | ((with_reducible refine sX ?_); refine mS ?_; clear hM; intro W hM) | ((with_reducible refine bX ?_); refine mB ?_; clear hM; intro g W hM) | ((with_reducible refine zX ?_); refine mB ?_; clear hM; intro g W hM))
   all_goals
    go_ret
    exact ⟨rfl, hM.below⟩
 subst he
 obtain ⟨d, hd, hBu⟩ := xK (l := l) (fx := s0) (fy := s1) (R := bC s4 s5) (pa := pa) (pb := pb) (act := act) (c := s2) (spd := s4) (bank := s5) (oalt := s6) (gr := s7) (by rw [hQ])
 rw [hQ] at hd
 dsimp only at hd
 subst hd
 obtain ⟨els, hels⟩ : ∃ els, d.els = els := ⟨_, rfl⟩
 have HPOS := hide (show ∀ x ∈ els, 1 ≤ x.L ∧ x.L ≤ 60000000 by rw [← hels]; exact Ba hBu)
 have HHD := hide (show ∀ x, els[0]? = some x → x.g = false by rw [← hels]; exact hBu.inv.head)
 have HMT := hide (show ∀ (i : Nat) (x y : El), els[i]? = some x → els[i + 1]? = some y → y.g = false → y.ax = x.bx ∧ y.ay = x.b_y by rw [← hels]; exact hBu.inv.meet)
 have HOK := hide (show vX els (jH els) = 0 by rw [← hels]; exact RV hBu)
 have HL5 : els.length ≤ 500 := by rw [← hels]; have := hBu.len; omega
 rw [hels] at BA
 clear hels hBu hQ HQ
 have hM := qB w
 go_enter Tryz.func4, Tryz.ntmps4
 go_upto_region 0 with (first | ((with_reducible refine lX ?_); refine mL ?_) | ((with_reducible refine sX ?_); refine mS ?_; clear hM; intro W hM) | ((with_reducible refine bX ?_); refine mB ?_; clear hM; intro g W hM) | ((with_reducible refine zX ?_); refine mB ?_; clear hM; intro g W hM))
 go_cut [2, 3] (fun t2 t3 wx => ∃ gP gS, t2 = .pointer (some ⟨gP, 0, none⟩) ∧ t3 = .pointer (some ⟨gS, 0, none⟩) ∧ qQ w wx [(gS, [.int .i64 s0, .int .i64 s1, .int .i64 s2, .int .i64 s3, .int .i64 s4, .int .i64 s5, .int .i64 s6, .int .i64 s7], 30), (gP, [.string pa, .string pb, .slice S l.length cap, .int .i64 act], 24)])
 case first =>
  go_wp2_with (first | ((with_reducible refine lX ?_); refine mL ?_) | ((with_reducible refine sX ?_); refine mS ?_; clear hM; intro W hM) | ((with_reducible refine bX ?_); refine mB ?_; clear hM; intro g W hM) | ((with_reducible refine zX ?_); refine mB ?_; clear hM; intro g W hM))
  all_goals
   go_meet
   exact ⟨_, _, rfl, rfl, hM⟩
 case rest =>
 clear hM
 obtain ⟨gP, gS, rfl, rfl, hM⟩ := hcut
 go_upto_region 4 with (first | (go_at_call 11; (with_reducible refine cb hM (bU _ (hide (qD hM hu.out))) ?_); clear hM; intro W1 hM) | (go_at_call 7; (with_reducible refine (BA _ (hide (jR hM hp.out)) (hide (qD hM hu.out))).mono ?_); rintro e W1 ⟨V, len, B, rfl, hO, hlen, hB⟩; replace hM := ZU hM hB; clear hB; simp only [List.cons_append, List.nil_append] at hM; obtain ⟨SV, capV, hVV⟩ := ut hO.1; subst hVV; have HO := hide hO; clear hO; have HLEN := hide hlen; clear hlen) | ((with_reducible refine lX ?_); refine mL ?_) | ((with_reducible refine sX ?_); refine mS ?_; clear hM; intro W hM) | ((with_reducible refine bX ?_); refine mB ?_; clear hM; intro g W hM) | ((with_reducible refine zX ?_); refine mB ?_; clear hM; intro g W hM))
 obtain ⟨gq, rfl⟩ : ∃ gq, gq = g := ⟨_, rfl⟩
 have CK := fun W h => kQ SV els capV len W (by omega) h
 rw [show vX els len = 0 by rw [HLEN.out]; exact HOK.out] at CK
 go_wp2_with (first | ((with_reducible refine lX ?_); refine mL ?_) | ((with_reducible refine sX ?_); refine mS ?_; clear hM; intro W hM) | ((with_reducible refine bX ?_); refine mB ?_; clear hM; intro g W hM) | ((with_reducible refine zX ?_); refine mB ?_; clear hM; intro g W hM))
 go_loopw [8, 39] (fun s8 s39 wx => ∃ j : Nat, j ≤ els.length ∧ s8 = .int .i64 (jH (els.take j)) ∧ s39 = .int .i64 j ∧ qQ w wx ((gq, [.slice SV els.length capV, .int .i64 len], 34) :: (gS, [.int .i64 s0, .int .i64 s1, .int .i64 s2, .int .i64 s3, .int .i64 s4, .int .i64 s5, .int .i64 s6, .int .i64 s7], 30) :: (gP, [.string pa, .string pb, .slice S l.length cap, .int .i64 act], 24) :: B)) (fun _ i _ => els.length - (intOf i).toNat)
 case atStart => exact ⟨0, Nat.zero_le _, rfl, rfl, hM⟩
 case round =>
  clear hM
  obtain ⟨j, hj, rfl, rfl, hM⟩ := hrel
  by_cases hlt : j < els.length
  · obtain ⟨x, hx⟩ : ∃ x, els[j]? = some x := ⟨_, List.getElem?_eq_getElem hlt⟩
    obtain ⟨gB, capB, cur, eq1, rfl, hcur⟩ := uY HO.out (by omega)
    simp only [Value.slice.injEq, true_and] at eq1
    obtain ⟨rfl, rfl⟩ := eq1
    have HC := hide (Qb hcur rfl hx)
    have HCU := hide hcur
    have HX := hide hx
    have HS := hide (uf hx)
    have hb1 := Yy (l := els.take j) (fun x hx => HPOS.out x (List.mem_of_mem_take hx))
    have hb2 := HPOS.out x (List.mem_of_getElem? hx)
    have hlen : (els.take j).length = j := by rw [List.length_take]; omega
    rw [hlen] at hb1
    obtain ⟨sm, hsm⟩ : ∃ sm, jH (els.take j) = sm := ⟨_, rfl⟩
    rw [hsm] at hb1 ⊢
    rw [hsm] at HS
    clear hcur hx hlen hsm
    go_upto_region 10 with (first | ((with_reducible refine lX ?_); refine fj hM rfl rfl rfl (by ((repeat constructor) <;> fail)) HC.out ?_) | ((with_reducible refine lX ?_); refine mL ?_) | ((with_reducible refine sX ?_); refine mS ?_; clear hM; intro W hM) | ((with_reducible refine bX ?_); refine mB ?_; clear hM; intro g W hM) | ((with_reducible refine zX ?_); refine mB ?_; clear hM; intro g W hM))
    obtain ⟨gx, rfl⟩ : ∃ gx, gx = g := ⟨_, rfl⟩
    try simp only [pS, pN, sA, sB, sC]
    go_cut [75] (fun s wx => s = .bool false ∧ qQ w wx ((gx, [.bool x.c, .int .i64 x.ax, .int .i64 x.ay, .int .i64 x.bx, .int .i64 x.b_y, .int .i64 x.cx, .int .i64 x.cy, .int .i64 x.r, .int .i64 x.f, .int .i64 x.s, .int .i64 x.L, .int .i64 x.n, .bool x.g], 41) :: (gq, [.slice (some ⟨gB, 0, none⟩) els.length capV, .int .i64 len], 34) :: (gS, [.int .i64 s0, .int .i64 s1, .int .i64 s2, .int .i64 s3, .int .i64 s4, .int .i64 s5, .int .i64 s6, .int .i64 s7], 30) :: (gP, [.string pa, .string pb, .slice S l.length cap, .int .i64 act], 24) :: [(gB, cur, 41)]))
    case first =>
     have c10 : W.cell? ⟨gx, 10, none⟩ = some (.int .i64 x.L) := hM.cell Lk.head 10
     have n1 : ¬ x.L < 1 := by omega
     have n2 : decide (x.L < 1) = false := decide_eq_false n1
     have q0 : W.cell? ⟨gq, 0, none⟩ = some (.slice (some ⟨gB, 0, none⟩) els.length capV) := hM.cell (Lk.tail Lk.head) 0
     rcases Nat.eq_zero_or_pos j with h0 | h0
     · have hg : x.g = false := HHD.out x (by rw [← h0]; exact HX.out)
       have c12 : W.cell? ⟨gx, 12, none⟩ = some (.bool false) := by rw [← hg]; exact hM.cell Lk.head 12
       have k0 : ¬ 0 < j := by omega
       have k1 : ¬ (0 : Int) < (j : Int) := by omega
       have k2 : ((j : Int) == 0) = true := by simp [h0]
       have k3 : decide ((0 : Int) < (j : Int)) = false := decide_eq_false k1
       clear h0 hg
       go_quiet (fail)
       all_goals
        go_wp2_with fail
        all_goals
         go_meet
         exact ⟨by first | rfl | (simp; done), by first | exact hM | exact zG hM | exact zK hM _ | exact zG (zG hM)⟩
     · obtain ⟨i, rfl⟩ : ∃ i, j = i + 1 := ⟨j - 1, by omega⟩
       obtain ⟨u, hu1⟩ : ∃ u, els[i]? = some u := ⟨_, List.getElem?_eq_getElem (by omega)⟩
       have ib : (i : Int) ≤ 500 := by omega
       have iw : IntKind.i64.wrap ((i : Int) + 1 - 1) = i := by rw [show (i : Int) + 1 - 1 = i by omega]; exact IntWalk.i64_in _ (by omega)
       have k0 : (0 : Int) < (i : Int) + 1 := by omega
       have k1 : decide ((0 : Int) < (i : Int) + 1) = true := decide_eq_true k0
       have k2 : ((i : Int) + 1 == 0) = false := by simp; omega
       have k3 : (i : Int) < (els.length : Int) := by omega
       rcases hg : x.g with _ | _
       · have hmt := HMT.out i u x hu1 HX.out hg
         have c12 : W.cell? ⟨gx, 12, none⟩ = some (.bool false) := by rw [← hg]; exact hM.cell Lk.head 12
         have c1 : W.cell? ⟨gx, 1, none⟩ = some (.int .i64 u.bx) := by rw [← hmt.1]; exact hM.cell Lk.head 1
         have c2 : W.cell? ⟨gx, 2, none⟩ = some (.int .i64 u.b_y) := by rw [← hmt.2]; exact hM.cell Lk.head 2
         have r3 : W.cell? ⟨gB, i * 13 + 3, none⟩ = some (.int .i64 u.bx) := (hM.cell (by ((repeat constructor) <;> fail)) _).trans (YJ HCU.out hu1 (i := 3) rfl)
         have r4 : W.cell? ⟨gB, i * 13 + 4, none⟩ = some (.int .i64 u.b_y) := (hM.cell (by ((repeat constructor) <;> fail)) _).trans (YJ HCU.out hu1 (i := 4) rfl)
         clear hu1 hg hmt
         go_quiet (fail)
         all_goals
          go_wp2_with fail
          all_goals
           go_meet
           exact ⟨by first | rfl | (simp; done), by first | exact hM | exact zG hM | exact zK hM _ | exact zG (zG hM)⟩
       · have c12 : W.cell? ⟨gx, 12, none⟩ = some (.bool true) := by rw [← hg]; exact hM.cell Lk.head 12
         clear hu1 hg
         go_quiet (fail)
         all_goals
          go_wp2_with fail
          all_goals
           go_meet
           exact ⟨by first | rfl | (simp; done), by first | exact hM | exact zG hM | exact zK hM _ | exact zG (zG hM)⟩
    case rest =>
    clear hM
    obtain ⟨rfl, hM⟩ := hcut
    have w1 := IntWalk.i64_in (sm + x.L) (by omega)
    go_wp2_with (first | ((with_reducible refine lX ?_); refine mL ?_) | ((with_reducible refine sX ?_); refine mS ?_; clear hM; intro W hM) | ((with_reducible refine bX ?_); refine mB ?_; clear hM; intro g W hM) | ((with_reducible refine zX ?_); refine mB ?_; clear hM; intro g W hM))
    all_goals
     go_roundw
     case rel => exact ⟨j + 1, hlt, by rw [HS.out], by go_num, qz hM⟩
     case measure => simp [intOf]; omega
  · have hje : j = els.length := by omega
    have hS : jH (els.take j) = len := by rw [hje, List.take_length, HLEN.out]
    rw [hS]
    clear hje hS
    go_wp2_with (first | (go_at_call 12; (with_reducible refine cb hM (CK _ (hide (JH hM HO.out (by intro b hb; repeat (first | exact hb | refine List.mem_cons_of_mem _ ?_))))) ?_); clear hM; intro W1 hM) | ((with_reducible refine lX ?_); refine mL ?_) | ((with_reducible refine sX ?_); refine mS ?_; clear hM; intro W hM) | ((with_reducible refine bX ?_); refine mB ?_; clear hM; intro g W hM) | ((with_reducible refine zX ?_); refine mB ?_; clear hM; intro g W hM))
    all_goals
     go_ret
     exact ⟨rfl, hM.below⟩
end Go.Proofs.YtdlognnifmihnaaGreatDoor
/-
  PathValid: the row's step: the given statement 'PathValidSaid' out of the walk.
-/
namespace Go.Proofs.YtdlognnifmihnaaGreatDoor.pathValid
open Go.ChangeShapes Go.WideShapes Go.ChangeAt Go.RowKit
theorem own : ownKnob Tryz.prog.godebug = none := by kernel_rfl
theorem laidOut : laidOutB Tryz.prog = true := Qs
theorem typed : (Tryz.f4.params.toList.all fun t => Tryz.prog.readableRec t && decide (t < Tryz.prog.types.size)) = true := by kernel_rfl
theorem VN : ∀ t ∈ Tryz.f4.params.toList, Tryz.prog.readableRec t = true ∧ t < Tryz.prog.types.size := by
 intro t ht
 have h := List.all_eq_true.1 typed t ht
 simpa using h
theorem aV : Tryz.prog.cellTypes Tryz.prog.depth 24 = some [9, 9, 22, 3] := by kernel_rfl
theorem aW : Tryz.prog.cellsOf 24 = ([9, 9, 22, 3] : List TypeId).length := by kernel_rfl
theorem aX : Tryz.prog.cellTypes Tryz.prog.depth 30 = some (List.replicate 8 2) := by kernel_rfl
theorem aY : Tryz.prog.cellsOf 30 = (List.replicate 8 2).length := by kernel_rfl
theorem lifted (os : Os) (started : os.Started) (H : Type) (enc : TypeId × Value → H) :
 ReturnsInHanded {} Tryz.checked os 4 .any (fun w args => (Rows.pathValidSpec.pre enc Tryz.prog Tryz.f4 Rows.pathValidRow.domain false w args ∧ laidMetH Tryz.prog gh w) ∧ sizedMet enc Tryz.prog Tryz.f4 (OpenSpec.ofChange Rows.pathValidSpec) false w args) (Rows.pathValidSpec.post enc Tryz.prog Tryz.f4 false true false false) := by
 refine returnsInHanded_of_change_and (C := Tryz.checked) (X := fun w _ => laidMetH Tryz.prog gh w) (fun _ _ _ hh h => h.of_heap hh) own started (by kernel_rfl) Tryz.func4
  (ChangeSpec.witness_shaped (enc := enc) (C := Tryz.checked) (os := os) (X := fun w _ => laidMetH Tryz.prog gh w) false (World.doorLaid Tryz.prog 400 os) #[.agg #[.string ⟨#[]⟩, .string ⟨#[]⟩, .slice none 0 0, .int .i64 0], .agg #[.int .i64 0, .int .i64 0, .int .i64 0, .int .i64 0, .int .i64 0, .int .i64 0, .int .i64 0, .int .i64 0]] 8 rfl (World.shaped_of_RefB (by kernel_rfl) (by kernel_rfl)) (by kernel_rfl) (by kernel_rfl) (by kernel_rfl) (Vv os _)) ?_
 intro W base args ds gs before hval0 hW hcnd _ hL _
 have hval : ∀ (j : Nat) t v, Tryz.f4.params[j]? = some t → args[j]? = some v → Value.okWide Tryz.prog W .any base t v := hval0
 have hW' := hW
 obtain ⟨p, q, hA0, hV, rfl, hfz, hnd⟩ := hW
 have hlen := trodAll_length _ _ _ _ hA0
 rw [Tryz.params4] at hval hlen
 obtain ⟨v0, v1, rfl⟩ := My hlen.1
 obtain ⟨d0, d1, rfl⟩ := mN hlen.2
 obtain ⟨lp, rfl, ep, hlp⟩ := Bj (Or.inl ⟨_, Tryz.underlying24⟩) aV aW (hval 0 24 v0 rfl rfl)
 obtain ⟨pc0, pc1, pc2, pc3, rfl⟩ := sP (ep.trans (by rfl))
 have hA' := hA0
 rw [Tryz.params4] at hA'
 obtain ⟨_, _, hTp, _⟩ := hA'
 obtain ⟨pA, pB, pS, pl, pcap, pact, hpv, hpA, hpB, hpn, hpact, hpp, hpx⟩ := BK hTp ⟨pc0, pc1, pc2, pc3, rfl⟩
 obtain ⟨rfl, rfl, rfl, rfl⟩ : pc0 = .string pA ∧ pc1 = .string pB ∧ pc2 = .slice pS pl.length pcap ∧ pc3 = .int .i64 pact := by simpa using hpv
 obtain ⟨ls, rfl, es, hls⟩ := Bl (Or.inl ⟨_, Tryz.underlying30⟩) aX aY (fun u hu => by rw [List.eq_of_mem_replicate hu]; exact Tryz.underlying2) (hval 1 30 v1 rfl rfl)
 obtain ⟨s0, s1, s2, s3, s4, s5, s6, s7, rfl⟩ := sR (es.trans (by simp))
 have hs0 : qH s0 := hls _ (by simp)
 have hs1 : qH s1 := hls _ (by simp)
 have hs2 : qH s2 := hls _ (by simp)
 have hs3 : qH s3 := hls _ (by simp)
 have hs4 : qH s4 := hls _ (by simp)
 have hs5 : qH s5 := hls _ (by simp)
 have hs6 : qH s6 := hls _ (by simp)
 have hs7 : qH s7 := hls _ (by simp)
 refine (bI pA pB pS pl pcap pact s0 s1 s2 s3 s4 s5 s6 s7 hpA hpB hpact (hide hpp) (hide hpx) hs0 hs1 hs2 hs3 hs4 hs5 hs6 hs7 hL W).mono fun e W' ⟨he, hb⟩ => ?_
 subst he
 exact ⟨_, rfl, Vi (f := Tryz.f4) (s := Rows.pathValidSpec) (tb := 4) laidOut VN rfl (by kernel_rfl) Tryz.underlying4 hW' ⟨rfl, rfl, rfl⟩ hb⟩
theorem k0 : (Rows.pathValidRow.wf (OpenSpec.ofChange Rows.pathValidSpec)) = true := by kernel_rfl
theorem k3 : (Tryz.f4.params.all (Tryz.prog.readableRec ·)) = true := by kernel_rfl
theorem k4 : (namedTie Tryz.prog Rows.pathValidRow.named Rows.pathValidSpec.vars) = true := by kernel_rfl
theorem k5 : (Rows.pathValidRow.stops == []) = true := by kernel_rfl
theorem k7 : (Rows.pathValidRow.knobs == []) = true := by kernel_rfl
theorem k9 : (Rows.pathValidRow.inPlace == Tryz.prog.inPlace 4) = true := by kernel_rfl
theorem k10 : (Rows.pathValidRow.unfollowed == Tryz.prog.unfollowed 4) = true := by kernel_rfl
theorem k11 : (Rows.pathValidRow.recurses == Tryz.prog.recurses 4) = true := by kernel_rfl
theorem k12 : (Rows.pathValidRow.named == Tryz.prog.varsNamed 4) = true := by kernel_rfl
theorem k13 : (Rows.pathValidRow.maps == (Tryz.f4.params.toList ++ Rows.pathValidSpec.plain.varTypes Tryz.prog).any (Tryz.prog.mapsRec ·)) = true := by kernel_rfl
theorem k14 : (Rows.pathValidRow.ifaces == (Tryz.f4.params.toList ++ Rows.pathValidSpec.plain.varTypes Tryz.prog).any (Tryz.prog.ifacesRec ·)) = true := by kernel_rfl
theorem k15 : (Rows.pathValidRow.mapsOut == Tryz.prog.mapsAmong Tryz.f4.resultTypes.toList) = true := by kernel_rfl
theorem k16 : (Rows.pathValidRow.loops == (Tryz.f4.params.toList ++ Rows.pathValidSpec.plain.varTypes Tryz.prog).any (Tryz.prog.loopsFrom ·)) = true := by kernel_rfl
theorem k17 : (Rows.pathValidRow.wideKeys == (Tryz.f4.params.toList ++ Rows.pathValidSpec.plain.varTypes Tryz.prog ++ Tryz.f4.resultTypes.toList).any (Tryz.prog.wideKeysFrom ·)) = true := by kernel_rfl
theorem k18 : (Rows.pathValidSpec.vars.all (Tryz.prog.varReadable ·)) = true := by kernel_rfl
theorem k19 : (Tryz.f4.resultTypes.all (fun t => Tryz.prog.readableRec t && decide (t < Tryz.prog.types.size))) = true := by kernel_rfl
theorem k20 : (Rows.pathValidRow.ifacesOut == Tryz.f4.resultTypes.toList.any (Tryz.prog.ifacesRec ·)) = true := by kernel_rfl
theorem k21 : (Rows.pathValidRow.loopsOut == Tryz.f4.resultTypes.toList.any (Tryz.prog.loopsFrom ·)) = true := by kernel_rfl
theorem k22 : (Rows.pathValidRow.plainKeys == Tryz.prog.plainKeys) = true := by kernel_rfl
theorem k23 : (Rows.pathValidRow.shortTexts.isNone) = true := by kernel_rfl
theorem k26 : (Rows.pathValidRow.lifted == Tryz.prog.liftsFinal) = true := by rw [Vp]; rfl
theorem k27 : (Tryz.prog.make == some Rows.pathValidRow.make) = true := by rw [Bn]; rfl
theorem k28 : (Rows.pathValidRow.kinds == (if Rows.pathValidRow.domain.isEmpty then [] else Tryz.f4.params.toList.map fun t => match Tryz.prog.underlying t with | some (.int k) => some k | _ => none)) = true := by kernel_rfl
theorem Cw : (Rows.pathValidRow.pinned == Rows.pathValidRow.pinnedBy) = true := by kernel_rfl
theorem Cz : (Rows.pathValidRow.veiled == (Tryz.f4.params.toList ++ Rows.pathValidSpec.plain.varTypes Tryz.prog ++ Tryz.f4.resultTypes.toList).any (Tryz.prog.veiledRec ·)) = true := by kernel_rfl
theorem CD : (Rows.pathValidRow.veiledFits Tryz.prog Tryz.f4.params.toList (Tryz.f4.params.toList ++ Rows.pathValidSpec.plain.varTypes Tryz.prog ++ Tryz.f4.resultTypes.toList)) = true := by kernel_rfl
theorem closed : joinedFacts Tryz.prog 4 Tryz.f4 Rows.pathValidSpec Rows.pathValidRow = true := (zy (zy (zy (zy (zy (zy (zy (zy (zy (zy (zy (zy (zy (zy (zy (zy (zy (zy (zy (zy (zy (zy (zy (zy (zy (zy (zy (zy (zy (zy (zy k0 Qs) Bm) k3) k4) k5) Vj) k7) Vl) k9) k10) k11) k12) k13) k14) k15) k16) k17) k18) k19) k20) k21) k22) k23) Vm) Vo) k26) k27) k28) Cw) Cz) CD)
theorem byName : Tryz.prog.funcNamed Rows.pathValidRow.func = some 4 := by kernel_rfl
theorem inst : Tryz.f4.isInstance Tryz.prog Rows.pathValidRow.origin Rows.pathValidRow.targs := of_decide_eq_true (by kernel_rfl)
theorem over : Rows.pathValidRow.holds Tryz.pinned (OpenSpec.ofChange Rows.pathValidSpec) :=
 OpenClaim.holds_of_wide 4 Tryz.f4 rfl rfl rfl rfl rfl rfl rfl ⟨rfl, rfl, rfl, rfl, rfl⟩ rfl rfl rfl rfl rfl byName Tryz.func4 closed
  inst (by unfold Func.isWrapper; rw [if_neg (of_decide_eq_false (by kernel_rfl))]; exact ⟨rfl, rfl⟩)
  (fun os started H enc _ => lifted os started H enc)
theorem proved : Rows.PathValidCardSaid :=
 Claim7.holds_tied_plain_at .later [] [.data] true Rows.pathValidCard.stood.harness false
  over (fun _ h => by cases h) (by kernel_rfl) (fun _ h => by cases h) pathValid_row_tie rfl ⟨rfl, rfl⟩ (by kernel_rfl) rfl
  (fun f fn hf hfn => by
    obtain rfl : f = 4 := Option.some.inj ((show Tryz.prog.funcNamed "flightdeck/flightdecklaw27.PathValid" = some 4 by kernel_rfl).symm.trans hf) |>.symm
    obtain rfl : fn = Tryz.f4 := (Option.some.inj (Tryz.func4.symm.trans hfn)).symm
    exact ⟨by kernel_rfl, fun j t ht => by
     have hm : t ∈ Tryz.f4.params.toList := by simpa using Array.mem_of_getElem? ht
     have hall : (Tryz.f4.params.toList.all fun u => !Tryz.prog.wantsStandIn u) = true := by kernel_rfl
     exact (show Tryz.prog.wantsStandIn t = false by simpa using List.all_eq_true.1 hall t hm)⟩)
  (by kernel_rfl)
end Go.Proofs.YtdlognnifmihnaaGreatDoor.pathValid
