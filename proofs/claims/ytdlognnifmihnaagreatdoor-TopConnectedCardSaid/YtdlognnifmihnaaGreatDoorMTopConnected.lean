/-
  The walk of the law: the path of a plan has no gap but at its discontinuities.
-/
import Derived.Test.YtdlognnifmihnaaGreatDoorMConn
import Derived.Test.YtdlognnifmihnaaGreatDoorMDrB
import Derived.Test.YtdlognnifmihnaaGreatDoorMGapL
import Derived.Test.YtdlognnifmihnaaGreatDoorMPatA
import Derived.Test.YtdlognnifmihnaaGreatDoorMPlanIn
import Derived.Test.YtdlognnifmihnaaGreatDoorCards
import Derived.Test.YtdlognnifmihnaaGreatDoorTie
set_option maxRecDepth 100000
set_option maxHeartbeats 16000000
namespace Go.Proofs.YtdlognnifmihnaaGreatDoor
open Go.RowKit
set_option linter.unusedVariables false
set_option linter.unusedSimpArgs false
theorem ZU {w W0 W' : World} {L B : List zz} (h : qQ w W0 L) (k : qQ W0 W' B) : qQ w W' (L ++ B) := by
 have h1 := qp h k.below
 refine ⟨h1.below, fun g cs t hm => ?_, ?_⟩
 · rcases List.mem_append.1 hm with hm | hm
   · exact h1.rows g cs t hm
   · have := k.rows g cs t hm
     exact ⟨Nat.le_trans h.below.size this.1, this.2⟩
 · rw [List.map_append, List.nodup_append]
   refine ⟨h.nodup, k.nodup, fun a ha b hb he => ?_⟩
   obtain ⟨⟨x1, x2, x3⟩, hx, e1⟩ := List.mem_map.1 ha
   obtain ⟨⟨y1, y2, y3⟩, hy, e2⟩ := List.mem_map.1 hb
   have q1 := h.lt hx
   have q2 := (k.rows y1 y2 y3 hy).1
   simp only at e1 e2
   omega
theorem JH {w W : World} {L B : List zz} {SV : Option Addr} {n capV : Nat} {els : List El} {m : Nat} (hM : qQ w W L) (hO : bG (.slice SV n capV) els B m) (hB : ∀ b ∈ B, b ∈ L) : yI W SV els := by
 intro k x hk
 obtain ⟨g, cap, cur, e, rfl, hcur⟩ := uY hO (by have := (List.getElem?_eq_some_iff.1 hk).1; omega)
 injection e with e1 e2 e3
 subst e1
 refine ⟨g, 0, rfl, ?_⟩
 have hr := Qb hcur rfl hk
 have hg := hM.rows g cur _ (hB _ (.head _))
 have key : ∀ (i : Nat) (v : Value), x.cells[i]? = some v → W.cell? ⟨g, k * 13 + i, none⟩ = some v := fun i v hv => by
  rw [cell_of_row W g _ cur.toArray _ (0, 0) hg.2]
  have hi : i < 13 := (List.getElem?_eq_some_iff.1 hv).1
  rw [← hr, List.getElem?_take, if_pos hi, List.getElem?_drop] at hv
  simpa using hv
 rw [Nat.zero_add]
 exact ⟨key 0 _ rfl, key 1 _ rfl, key 2 _ rfl, key 3 _ rfl, key 4 _ rfl, key 5 _ rfl, key 6 _ rfl, key 7 _ rfl, key 8 _ rfl, key 9 _ rfl, key 10 _ rfl, key 11 _ rfl, key 12 _ rfl⟩
theorem YJ {cur : List Value} {els : List El} {k : Nat} {x : El} (hcur : cur.take (els.length * 13) = els.flatMap El.cells) (hx : els[k]? = some x) {i : Nat} {v : Value} (hv : x.cells[i]? = some v) : cur[k * 13 + i]? = some v := by
 have hi : i < 13 := (List.getElem?_eq_some_iff.1 hv).1
 rw [← Qb hcur rfl hx, List.getElem?_take, if_pos hi, List.getElem?_drop] at hv
 exact hv
theorem JI {l : List En} {fx fy : Int} {R : Int × Int} {T : List Tk × Int × Int} (h : (ji l fx fy R T).2.2 ≠ 0) : (ji l fx fy R T).1 = [] := by
 unfold ji at h ⊢
 by_cases h1 : T.2.2 ≠ 0
 · rw [if_pos h1]
 rw [if_neg h1] at h ⊢
 by_cases h2 : R.2 ≠ 0
 · rw [if_pos h2]
 rw [if_neg h2] at h ⊢
 generalize T.1 = ts at *
 cases ts with
 | nil => rfl
 | cons x r =>
   dsimp only at h ⊢
   by_cases h3 : (ze l R.1 true false ⟨[], fx, fy, false⟩ x r).2.2 ≠ 0
   · rw [if_pos h3]
   rw [if_neg h3] at h ⊢
   by_cases h4 : ((ze l R.1 true false ⟨[], fx, fy, false⟩ x r).1.els.length : Int) > 500
   · rw [if_pos h4]
   rw [if_neg h4] at h
   exact absurd rfl h
theorem RO {cur : List Value} {els : List El} {k : Nat} {x : El} (hcur : cur.take (els.length * 13) = els.flatMap El.cells) (hx : els[k]? = some x) : ∃ pre post, cur = pre ++ mid x.cells post ∧ pre.length = k * 13 := by
 have h1 := Qb hcur rfl hx
 have hk := (List.getElem?_eq_some_iff.1 hx).1
 refine ⟨cur.take (k * 13), (cur.drop (k * 13)).drop 13, ?_, ?_⟩
 · unfold mid
   rw [← h1, List.take_append_drop, List.take_append_drop]
 · have h2 := congrArg List.length h1
   rw [List.length_take, List.length_drop, wY] at h2
   rw [List.length_take]
   omega
theorem RL (ax ay bx b_y k : Int) (w : World) (h : QQ ax ay bx b_y k) (hk : 0 ≤ k ∧ k ≤ 1000) :
 Calls Tryz.prog 9 #[.agg #[.int .i64 ax, .int .i64 ay], .agg #[.int .i64 bx, .int .i64 b_y], .int .i64 k] w fun e w' => e = .returned (.bool true) ∧ Below w.heap.size w w' := by
 have hM := qB w
 obtain ⟨⟨h1, h2⟩, h3, h4⟩ := h
 have w1 := IntWalk.i64_in (ax - bx) (by omega)
 have w2 := IntWalk.i64_in (bx - ax) (by omega)
 have w3 := IntWalk.i64_in (ay - b_y) (by omega)
 have w4 := IntWalk.i64_in (b_y - ay) (by omega)
 have d1 := decide_eq_true h1
 have d2 := decide_eq_true h2
 have d3 := decide_eq_true h3
 have d4 := decide_eq_true h4
 go_enter Tryz.func9, Tryz.ntmps9
 go_wp2_with (first | ((with_reducible refine lX ?_); refine mL ?_) | ((with_reducible refine sX ?_); refine mS ?_; clear hM; intro W hM) | ((with_reducible refine bX ?_); refine mB ?_; clear hM; intro g W hM) | ((with_reducible refine zX ?_); refine mB ?_; clear hM; intro g W hM))
 all_goals
  go_ret
  exact ⟨by first | rfl | simp [*], hM.below⟩
theorem RM (w : World) : Calls Tryz.prog 6 #[] w fun e w' => e = .returned (.bool true) ∧ Below w.heap.size w w' := by
 have hM := qB w
 have hc : qF 0 0 1 0 = (32400000, 0) := by
  have := aq 1 (by decide)
  unfold qF qZ yL
  simp [qf, this]
 have C := fun W => yd 0 0 1 0 W
 simp only [hc] at C
 go_enter Tryz.func6, Tryz.ntmps6
 go_wp2_with (first | (go_at_call 15; refine cb hM (C _) ?_; clear hM; intro W1 hM))
 all_goals
  go_ret
  exact ⟨rfl, hM.below⟩
theorem RP (pa pb : ByteArray) (S : Option Addr) (l : List En) (cap : Nat) (act : Int) (a b : Nat) (w : World) (hp : Hid (xk w S l)) (hab : a ≤ b) (hb : b ≤ l.length) (h60 : l.length ≤ 60) (q : Bool) (hq : Hid (q = true ↔ xU l a b)) :
 Calls Tryz.prog 10 #[.agg #[.string pa, .string pb, .slice S l.length cap, .int .i64 act], .int .i64 a, .int .i64 b] w fun e w' => e = .returned (.bool q) ∧ Below w.heap.size w w' := by
 have hM := qB w
 have w1 := IntWalk.i64_in ((a : Int) + 1) (by omega)
 go_enter Tryz.func10, Tryz.ntmps10
 go_upto_region 1 with (first | ((with_reducible refine lX ?_); refine mL ?_) | ((with_reducible refine sX ?_); refine mS ?_; clear hM; intro W hM) | ((with_reducible refine bX ?_); refine mB ?_; clear hM; intro g W hM) | ((with_reducible refine zX ?_); refine mB ?_; clear hM; intro g W hM))
 obtain ⟨gP, rfl⟩ : ∃ gP, gP = g := ⟨_, rfl⟩
 go_wp2_with (first | ((with_reducible refine lX ?_); refine mL ?_) | ((with_reducible refine sX ?_); refine mS ?_; clear hM; intro W hM) | ((with_reducible refine bX ?_); refine mB ?_; clear hM; intro g W hM) | ((with_reducible refine zX ?_); refine mB ?_; clear hM; intro g W hM))
 go_loopw [7] (fun s7 wx => ∃ j : Nat, a < j ∧ j ≤ b + 1 ∧ Hid (∀ (i : Nat) (x : En), a < i → i < j → l[i]? = some x → x.gap = false) ∧ s7 = .int .i64 j ∧ qQ w wx [(gP, [.string pa, .string pb, .slice S l.length cap, .int .i64 act], 24)]) (fun s _ => b - (intOf s).toNat)
 case atStart => exact ⟨a + 1, by omega, by omega, hide (fun i x h1 h2 => by omega), by go_num, hM⟩
 case round =>
  clear hM
  obtain ⟨j, hja, hjb, HJ, rfl, hM⟩ := hrel
  by_cases hlt : j < b
  · have hjl : j < l.length := by omega
    obtain ⟨x, hx⟩ : ∃ x, l[j]? = some x := ⟨_, List.getElem?_eq_getElem hjl⟩
    obtain ⟨bb, o, rfl, hat⟩ := hp.out j x hx
    have HX := hide hx
    have c0 := QD hat
    clear hat hx
    rcases hg : x.gap with _ | _
    · rw [hg] at c0
      have HG0 := hide c0
      have HJ1 := hide (show ∀ (i : Nat) (y : En), a < i → i < j + 1 → l[i]? = some y → y.gap = false from fun i y h1 h2 hy => by
       by_cases hi : i < j
       · exact HJ.out i y h1 hi hy
       · obtain rfl : i = j := by omega
         rw [HX.out] at hy
         injection hy with hy
         rw [← hy]; exact hg)
      clear c0 hg
      go_wp2_with (first | ((with_reducible refine lX ?_); refine QE hM rfl (by first | exact rfl | (go_simp; done)) rfl (mT rfl) HG0.out ?_) | ((with_reducible refine lX ?_); refine mL ?_) | ((with_reducible refine sX ?_); refine mS ?_; clear hM; intro W hM) | ((with_reducible refine bX ?_); refine mB ?_; clear hM; intro g W hM) | ((with_reducible refine zX ?_); refine mB ?_; clear hM; intro g W hM))
      all_goals
       go_roundw
       case rel => exact ⟨j + 1, by omega, by omega, HJ1, by go_num, hM⟩
       case measure => simp [intOf]; omega
    · rw [hg] at c0
      have HG0 := hide c0
      obtain rfl : q = true := hq.out.2 ⟨j, x, by omega, by omega, HX.out, hg⟩
      clear c0 hg
      go_wp2_with (first | ((with_reducible refine lX ?_); refine QE hM rfl (by first | exact rfl | (go_simp; done)) rfl (mT rfl) HG0.out ?_) | ((with_reducible refine lX ?_); refine mL ?_) | ((with_reducible refine sX ?_); refine mS ?_; clear hM; intro W hM) | ((with_reducible refine bX ?_); refine mB ?_; clear hM; intro g W hM) | ((with_reducible refine zX ?_); refine mB ?_; clear hM; intro g W hM))
      all_goals
       go_ret
       exact ⟨rfl, hM.below⟩
  · obtain rfl : q = false := by
     rcases q with _ | _
     · rfl
     · obtain ⟨i, x, h1, h2, h3, h4⟩ := hq.out.1 rfl
       rw [HJ.out i x (by omega) (by omega) h3] at h4
       cases h4
    go_wp2_with (first | ((with_reducible refine lX ?_); refine mL ?_) | ((with_reducible refine sX ?_); refine mS ?_; clear hM; intro W hM) | ((with_reducible refine bX ?_); refine mB ?_; clear hM; intro g W hM) | ((with_reducible refine zX ?_); refine mB ?_; clear hM; intro g W hM))
    all_goals
     go_ret
     exact ⟨rfl, hM.below⟩
theorem cl {W : World} (pa pb : ByteArray) (S : Option Addr) (l : List En) (cap : Nat) (act : Int) (s0 s1 s2 s3 s4 s5 s6 s7 : Int) (ha : pa.size ≤ maxLen) (hb : pb.size ≤ maxLen) (hact : qH act) (hp : Hid (xk W S l)) (hxs : Hid (∀ (k : Nat) (x : En), l[k]? = some x → pK x)) (hs0 : qH s0) (hs1 : qH s1) (hs2 : qH s2) (hs3 : qH s3) (hs4 : qH s4) (hs5 : qH s5) (hs6 : qH s6) (hs7 : qH s7) (hL : laidMetH Tryz.prog gh W) (w : World) (hw : w = W := by rfl) :
 Calls Tryz.prog 3 #[.agg #[.string pa, .string pb, .slice S l.length cap, .int .i64 act], .agg #[.int .i64 s0, .int .i64 s1, .int .i64 s2, .int .i64 s3, .int .i64 s4, .int .i64 s5, .int .i64 s6, .int .i64 s7]] w fun e w' => e = .returned (.bool true) ∧ Below w.heap.size w w' := by
 subst hw
 have hu := hide (Bs hL)
 clear hL
 have BA := fun W h1 h2 => Qp pa pb S l cap act s0 s1 s2 s4 s5 s6 s7 W ha hb h1 hxs hs2 hs6 h2
 obtain ⟨Q, hQ⟩ : ∃ Q, ji l s0 s1 (bC s4 s5) (qO pa pb l act s0 s1 s2 s4 s5 s6 s7) = Q := ⟨_, rfl⟩
 rw [hQ] at BA
 have HQ := hide hQ
 obtain ⟨els, idx, er⟩ := Q
 by_cases he : er = 0
 rotate_left 1
 · have hne : (er != 0) = true := by simpa using he
   clear he hQ HQ
   have hM := qB w
   go_enter Tryz.func3, Tryz.ntmps3
   go_upto_region 0 with (first | ((with_reducible refine lX ?_); refine mL ?_) | ((with_reducible refine sX ?_); refine mS ?_; clear hM; intro W hM) | ((with_reducible refine bX ?_); refine mB ?_; clear hM; intro g W hM) | ((with_reducible refine zX ?_); refine mB ?_; clear hM; intro g W hM))
   go_cut [2, 3] (fun t2 t3 wx => ∃ gP gS, t2 = .pointer (some ⟨gP, 0, none⟩) ∧ t3 = .pointer (some ⟨gS, 0, none⟩) ∧ qQ w wx [(gS, [.int .i64 s0, .int .i64 s1, .int .i64 s2, .int .i64 s3, .int .i64 s4, .int .i64 s5, .int .i64 s6, .int .i64 s7], 30), (gP, [.string pa, .string pb, .slice S l.length cap, .int .i64 act], 24)])
   case first =>
    go_wp2_with (first | ((with_reducible refine lX ?_); refine mL ?_) | ((with_reducible refine sX ?_); refine mS ?_; clear hM; intro W hM) | ((with_reducible refine bX ?_); refine mB ?_; clear hM; intro g W hM) | ((with_reducible refine zX ?_); refine mB ?_; clear hM; intro g W hM))
    all_goals
     go_meet
     exact ⟨_, _, rfl, rfl, hM⟩
   case rest =>
   clear hM
   obtain ⟨gP, gS, rfl, rfl, hM⟩ := hcut
   go_wp2_with (first | (go_at_call 6; (with_reducible refine cb hM (RM _) ?_); clear hM; intro W1 hM) | (go_at_call 7; (with_reducible refine (BA _ (hide (jR hM hp.out)) (hide (qD hM hu.out))).mono ?_); rintro e W1 ⟨V, len, B, rfl, hO, hlen, hB⟩; replace hM := ZU hM hB; clear hB; simp only [List.cons_append, List.nil_append] at hM; obtain ⟨SV, capV, hVV⟩ := ut hO.1; subst hVV; have HO := hide hO; clear hO; have HLEN := hide hlen; clear hlen) | ((with_reducible refine lX ?_); refine mL ?_) | ((with_reducible refine sX ?_); refine mS ?_; clear hM; intro W hM) | ((with_reducible refine bX ?_); refine mB ?_; clear hM; intro g W hM) | ((with_reducible refine zX ?_); refine mB ?_; clear hM; intro g W hM))
   all_goals
    go_ret
    exact ⟨rfl, hM.below⟩
 subst he
 have HGL0 := sZ (l := l) (fx := s0) (fy := s1) (R := bC s4 s5) (pa := pa) (pb := pb) (act := act) (c := s2) (spd := s4) (bank := s5) (oalt := s6) (gr := s7) (by rw [hQ])
 rw [hQ] at HGL0
 have HT0 : (qO pa pb l act s0 s1 s2 s4 s5 s6 s7).2.2 = 0 := by
  by_cases h1 : (qO pa pb l act s0 s1 s2 s4 s5 s6 s7).2.2 = 0
  · exact h1
  · unfold ji at hQ
    rw [if_pos h1] at hQ
    exact absurd (congrArg (fun q => q.2.2) hQ) h1
 have HL60 := hide (bY (ku HT0).1).2
 obtain ⟨d, hd, hBu⟩ := xK (l := l) (fx := s0) (fy := s1) (R := bC s4 s5) (pa := pa) (pb := pb) (act := act) (c := s2) (spd := s4) (bank := s5) (oalt := s6) (gr := s7) (by rw [hQ])
 rw [hQ] at hd
 dsimp only at hd HGL0
 subst hd
 obtain ⟨els, hels⟩ : ∃ els, d.els = els := ⟨_, rfl⟩
 have HPOS := hide (show ∀ x ∈ els, 1 ≤ x.L ∧ x.L ≤ 60000000 by rw [← hels]; exact Ba hBu)
 have HMT := hide (show ∀ (i : Nat) (x y : El), els[i]? = some x → els[i + 1]? = some y → y.g = false → y.ax = x.bx ∧ y.ay = x.b_y by rw [← hels]; exact hBu.inv.meet)
 have HNU := hide (show ∀ x ∈ els, rS l act x.n by rw [← hels]; exact hBu.num)
 have HUP := hide (show ∀ (i : Nat) (a b : El), els[i]? = some a → els[i + 1]? = some b → a.n ≤ b.n by rw [← hels]; exact hBu.ent.choose_spec.up)
 have HEND := hide (show ∀ (k : Nat) (x : El), els[k]? = some x → (JS els (jH els) (jH (els.take (k + 1)))).2.2.2 = 0 → QQ (JS els (jH els) (jH (els.take (k + 1)))).1 (JS els (jH els) (jH (els.take (k + 1)))).2.1 x.bx x.b_y 16 by rw [← hels]; exact fun k x hx he => sG hBu hx he)
 have HSTA := hide (show ∀ (k : Nat) (x : El), els[k]? = some x → (JS els (jH els) (jH (els.take k) + 1)).2.2.2 = 0 → QQ (JS els (jH els) (jH (els.take k) + 1)).1 (JS els (jH els) (jH (els.take k) + 1)).2.1 x.ax x.ay 18 by rw [← hels]; exact fun k x hx he => wA hBu hx he)
 have HGL := hide (show (∀ x, els[0]? = some x → x.g = false) ∧ ∀ (i : Nat) (x y : El), els[i]? = some x → els[i + 1]? = some y → (y.g = true ↔ xU l x.n y.n) by rw [← hels]; exact HGL0)
 have HL5 : els.length ≤ 500 := by rw [← hels]; have := hBu.len; omega
 rw [hels] at BA
 clear hels hBu hQ HQ HGL0 HT0
 have hM := qB w
 go_enter Tryz.func3, Tryz.ntmps3
 go_upto_region 0 with (first | ((with_reducible refine lX ?_); refine mL ?_) | ((with_reducible refine sX ?_); refine mS ?_; clear hM; intro W hM) | ((with_reducible refine bX ?_); refine mB ?_; clear hM; intro g W hM) | ((with_reducible refine zX ?_); refine mB ?_; clear hM; intro g W hM))
 go_cut [2, 3] (fun t2 t3 wx => ∃ gP gS, t2 = .pointer (some ⟨gP, 0, none⟩) ∧ t3 = .pointer (some ⟨gS, 0, none⟩) ∧ qQ w wx [(gS, [.int .i64 s0, .int .i64 s1, .int .i64 s2, .int .i64 s3, .int .i64 s4, .int .i64 s5, .int .i64 s6, .int .i64 s7], 30), (gP, [.string pa, .string pb, .slice S l.length cap, .int .i64 act], 24)])
 case first =>
  go_wp2_with (first | ((with_reducible refine lX ?_); refine mL ?_) | ((with_reducible refine sX ?_); refine mS ?_; clear hM; intro W hM) | ((with_reducible refine bX ?_); refine mB ?_; clear hM; intro g W hM) | ((with_reducible refine zX ?_); refine mB ?_; clear hM; intro g W hM))
  all_goals
   go_meet
   exact ⟨_, _, rfl, rfl, hM⟩
 case rest =>
 clear hM
 obtain ⟨gP, gS, rfl, rfl, hM⟩ := hcut
 go_upto_region 4 with (first | (go_at_call 6; (with_reducible refine cb hM (RM _) ?_); clear hM; intro W1 hM) | (go_at_call 7; (with_reducible refine (BA _ (hide (jR hM hp.out)) (hide (qD hM hu.out))).mono ?_); rintro e W1 ⟨V, len, B, rfl, hO, hlen, hB⟩; replace hM := ZU hM hB; clear hB; simp only [List.cons_append, List.nil_append] at hM; obtain ⟨SV, capV, hVV⟩ := ut hO.1; subst hVV; have HO := hide hO; clear hO; have HLEN := hide hlen; clear hlen) | ((with_reducible refine lX ?_); refine mL ?_) | ((with_reducible refine sX ?_); refine mS ?_; clear hM; intro W hM) | ((with_reducible refine bX ?_); refine mB ?_; clear hM; intro g W hM) | ((with_reducible refine zX ?_); refine mB ?_; clear hM; intro g W hM))
 obtain ⟨gq, rfl⟩ : ∃ gq, gq = g := ⟨_, rfl⟩
 go_wp2_with (first | ((with_reducible refine lX ?_); refine mL ?_) | ((with_reducible refine sX ?_); refine mS ?_; clear hM; intro W hM) | ((with_reducible refine bX ?_); refine mB ?_; clear hM; intro g W hM) | ((with_reducible refine zX ?_); refine mB ?_; clear hM; intro g W hM))
 go_loopw [8, 36] (fun s8 s36 wx => ∃ j : Nat, j ≤ els.length ∧ s8 = .int .i64 (jH (els.take j)) ∧ s36 = .int .i64 j ∧ qQ w wx ((gq, [.slice SV els.length capV, .int .i64 len], 34) :: (gS, [.int .i64 s0, .int .i64 s1, .int .i64 s2, .int .i64 s3, .int .i64 s4, .int .i64 s5, .int .i64 s6, .int .i64 s7], 30) :: (gP, [.string pa, .string pb, .slice S l.length cap, .int .i64 act], 24) :: B)) (fun _ i _ => els.length - (intOf i).toNat)
 case atStart => exact ⟨0, Nat.zero_le _, rfl, rfl, hM⟩
 case round =>
  clear hM
  obtain ⟨j, hj, rfl, rfl, hM⟩ := hrel
  by_cases hlt : j < els.length
  · obtain ⟨x, hx⟩ : ∃ x, els[j]? = some x := ⟨_, List.getElem?_eq_getElem hlt⟩
    obtain ⟨jxn, ex, hxn, -, hlx, hgx⟩ := HNU.out x (List.mem_of_getElem? hx)
    have hjxn : jxn < l.length := (List.getElem?_eq_some_iff.1 hlx).1
    have hl60 := HL60.out
    obtain ⟨b, o, rfl, hat⟩ := hp.out jxn ex hlx
    have c0 := QD hat
    rw [hgx] at c0
    have HG0 := hide c0
    have HXN := hide hxn
    clear hat c0 hlx hgx
    obtain ⟨gB, capB, cur, eq1, rfl, hcur⟩ := uY HO.out (by omega)
    simp only [Value.slice.injEq, true_and] at eq1
    obtain ⟨rfl, rfl⟩ := eq1
    have HC := hide (Qb hcur rfl hx)
    have HCU := hide hcur
    have HX := hide hx
    have HS := hide (uf hx)
    have hb1 := Yy (l := els.take j) (fun x hx => HPOS.out x (List.mem_of_mem_take hx))
    have hb2 := HPOS.out x (List.mem_of_getElem? hx)
    have hlen : (els.take j).length = j := by rw [List.length_take]; omega
    rw [hlen] at hb1
    obtain ⟨A, hA⟩ : ∃ A, JS els len (jH (els.take j) + 1) = A := ⟨_, rfl⟩
    have HCS0 := HSTA.out j x hx
    rw [← show len = jH els from HLEN.out, hA] at HCS0
    obtain ⟨a1, a2, a3, a4⟩ := A
    dsimp only at HCS0
    have HCS := hide HCS0
    obtain ⟨sm, hsm⟩ : ∃ sm, jH (els.take j) = sm := ⟨_, rfl⟩
    have HSM := hide hsm
    rw [hsm] at hb1 hA ⊢
    rw [hsm] at HS
    have PA := fun W h => mV (some ⟨gB, 0, none⟩) els capV len (sm + 1) W (by omega) h (a1, a2, a3, a4) hA.symm
    clear hcur hx hlen hsm hA HCS0 hxn
    have w1 := IntWalk.i64_in (sm + x.L) (by omega)
    have w2 := IntWalk.i64_in (sm + 1) (by omega)
    go_upto_region 10 with (first | ((with_reducible refine lX ?_); refine fj hM rfl rfl rfl (by ((repeat constructor) <;> fail)) HC.out ?_) | ((with_reducible refine lX ?_); refine mL ?_) | ((with_reducible refine sX ?_); refine mS ?_; clear hM; intro W hM) | ((with_reducible refine bX ?_); refine mB ?_; clear hM; intro g W hM) | ((with_reducible refine zX ?_); refine mB ?_; clear hM; intro g W hM))
    obtain ⟨gx, rfl⟩ : ∃ gx, gx = g := ⟨_, rfl⟩
    rw [HXN.out] at hM
    try simp only [pS, pN, sA, sB, sC]
    rcases Nat.eq_zero_or_pos j with h0 | h0
    · have hg : x.g = false := HGL.out.1 x (by rw [← h0]; exact HX.out)
      rw [hg] at hM
      have k1 : ¬ (0 : Int) < (j : Int) := by omega
      have k3 : decide ((0 : Int) < (j : Int)) = false := decide_eq_false k1
      have n0 : ¬ 0 < j := by omega
      have n1 : decide (0 < j) = false := decide_eq_false n0
      clear h0 hg
      go_cut [59] (fun s wx => s = .bool false ∧ qQ w wx ((gx, [.bool x.c, .int .i64 x.ax, .int .i64 x.ay, .int .i64 x.bx, .int .i64 x.b_y, .int .i64 x.cx, .int .i64 x.cy, .int .i64 x.r, .int .i64 x.f, .int .i64 x.s, .int .i64 x.L, .int .i64 jxn, .bool false], 41) :: (gq, [.slice (some ⟨gB, 0, none⟩) els.length capV, .int .i64 len], 34) :: (gS, [.int .i64 s0, .int .i64 s1, .int .i64 s2, .int .i64 s3, .int .i64 s4, .int .i64 s5, .int .i64 s6, .int .i64 s7], 30) :: (gP, [.string pa, .string pb, .slice (some ⟨b, o, none⟩) l.length cap, .int .i64 act], 24) :: [(gB, cur, 41)]))
      case first =>
       have c12 := hM.cell Lk.head 12
       have q0 := hM.cell (Lk.tail Lk.head) 0
       go_quiet (fail)
       all_goals
        go_wp2_with fail
        all_goals
         go_meet
         exact ⟨by first | rfl | (simp; done), by first | exact hM | exact zG hM | exact zK hM _ | exact zG (zG hM)⟩
      case rest =>
      clear hM
      obtain ⟨rfl, hM⟩ := hcut
      go_upto_region 17 with (first | (go_at_call 8; (with_reducible refine cb hM (PA _ (hide (JH hM HO.out (by intro b hb; repeat (first | exact hb | refine List.mem_cons_of_mem _ ?_))))) ?_); clear hM; intro W1 hM) | ((with_reducible refine lX ?_); refine mL ?_) | ((with_reducible refine sX ?_); refine mS ?_; clear hM; intro W hM) | ((with_reducible refine bX ?_); refine mB ?_; clear hM; intro g W hM) | ((with_reducible refine zX ?_); refine mB ?_; clear hM; intro g W hM))
      obtain ⟨ga, rfl⟩ : ∃ ga, ga = g := ⟨_, rfl⟩
      try simp only [pS, pN, sA, sB, sC]
      go_cut [99] (fun s wx => s = .bool false ∧ qQ w wx ((ga, [.int .i64 a1, .int .i64 a2], 26) :: (gx, [.bool x.c, .int .i64 x.ax, .int .i64 x.ay, .int .i64 x.bx, .int .i64 x.b_y, .int .i64 x.cx, .int .i64 x.cy, .int .i64 x.r, .int .i64 x.f, .int .i64 x.s, .int .i64 x.L, .int .i64 jxn, .bool false], 41) :: (gq, [.slice (some ⟨gB, 0, none⟩) els.length capV, .int .i64 len], 34) :: (gS, [.int .i64 s0, .int .i64 s1, .int .i64 s2, .int .i64 s3, .int .i64 s4, .int .i64 s5, .int .i64 s6, .int .i64 s7], 30) :: (gP, [.string pa, .string pb, .slice (some ⟨b, o, none⟩) l.length cap, .int .i64 act], 24) :: [(gB, cur, 41)]))
      case first =>
       by_cases hr : a4 = 0
       · have HN := hide (HCS.out hr)
         subst hr
         go_wp2_with (first | (go_at_call 9; (with_reducible refine cb hM (RL _ _ _ _ _ _ HN.out (by omega)) ?_); clear hM; intro W1 hM) | ((with_reducible refine lX ?_); refine mL ?_) | ((with_reducible refine sX ?_); refine mS ?_; clear hM; intro W hM) | ((with_reducible refine bX ?_); refine mB ?_; clear hM; intro g W hM) | ((with_reducible refine zX ?_); refine mB ?_; clear hM; intro g W hM))
         all_goals
          go_meet
          exact ⟨rfl, hM⟩
       · have e1 : (a4 == 0) = false := by simpa using hr
         clear hr
         go_wp2_with (first | ((with_reducible refine lX ?_); refine mL ?_) | ((with_reducible refine sX ?_); refine mS ?_; clear hM; intro W hM) | ((with_reducible refine bX ?_); refine mB ?_; clear hM; intro g W hM) | ((with_reducible refine zX ?_); refine mB ?_; clear hM; intro g W hM))
         all_goals
          go_meet
          exact ⟨rfl, hM⟩
      case rest =>
      clear hM
      obtain ⟨rfl, hM⟩ := hcut
      go_upto_region 19 with (first | ((with_reducible refine lX ?_); refine mL ?_) | ((with_reducible refine sX ?_); refine mS ?_; clear hM; intro W hM) | ((with_reducible refine bX ?_); refine mB ?_; clear hM; intro g W hM) | ((with_reducible refine zX ?_); refine mB ?_; clear hM; intro g W hM))
      try simp only [pS, pN, sA, sB, sC]
      refine qW [(gx, [.bool x.c, .int .i64 x.ax, .int .i64 x.ay, .int .i64 x.bx, .int .i64 x.b_y, .int .i64 x.cx, .int .i64 x.cy, .int .i64 x.r, .int .i64 x.f, .int .i64 x.s, .int .i64 x.L, .int .i64 jxn, .bool false], 41), (gP, [.string pa, .string pb, .slice (some ⟨b, o, none⟩) l.length cap, .int .i64 act], 24), (gq, [.slice (some ⟨gB, 0, none⟩) els.length capV, .int .i64 len], 34)] hM (by kernel_rfl) ?_; (clear hM; intro W hM)
      refine rD 0 ?_
      refine rD 1 ?_
      refine rD 2 ?_
      refine rD 3 ?_
      refine rD 4 ?_
      refine rD 5 ?_
      refine dP 6 (v := .pointer (some ⟨b, o + jxn * 20, none⟩)) hM ?_ (hv := by (intro W0; go_simp; first | done | omega | (intro h; exact absurd h (by omega))))
      try simp only [pS, pN, sA, sB, sC]
      refine rD 7 ?_
      refine dC 8 (fun K' hK' => ?_)
      refine oO hM HG0.out ?_
      refine rK hK' hM ?_; clear hK' K'
      refine rD 9 ?_
      refine rE 10 ?_
      first | refine eP 11 (v := .bool false) hM ?_ (hv := by (intro W0; go_simp; first | done | omega)) | refine eS 11 hM ?_
      try simp only [pS, pN, sA, sB, sC]
      refine rE 12 ?_
      refine rE 13 ?_
      refine rE 14 ?_
      refine rE 15 ?_
      refine rE 16 ?_
      refine rE 17 ?_
      refine rE 18 ?_
      refine rE 19 ?_
      refine rE 20 ?_
      refine rE 21 ?_
      refine rE 22 ?_
      first
       | refine Rw 23 hM ?_
       | (refine eC 23 (fun K' hK' => ?_)
          go_wp2_with fail
          refine rK hK' hM ?_; clear hK' K')
      refine rE 24 ?_
      refine rD 25 ?_
      refine rD 26 ?_
      refine qE (by kernel_rfl) ?_
      go_wp2_with (first | ((with_reducible refine lX ?_); refine mL ?_) | ((with_reducible refine sX ?_); refine mS ?_; clear hM; intro W hM) | ((with_reducible refine bX ?_); refine mB ?_; clear hM; intro g W hM) | ((with_reducible refine zX ?_); refine mB ?_; clear hM; intro g W hM))
      all_goals
       go_roundw
       case rel => exact ⟨j + 1, hlt, by rw [HS.out], by go_num, qz (qz hM)⟩
       case measure => simp [intOf]; omega
    · obtain ⟨i, hji⟩ : ∃ i, j = i + 1 := ⟨j - 1, by omega⟩
      obtain ⟨u, hu1⟩ : ∃ u, els[i]? = some u := ⟨_, List.getElem?_eq_getElem (by omega)⟩
      obtain ⟨un, eun, hun, -, hlu, -⟩ := HNU.out u (List.mem_of_getElem? hu1)
      have HX1 := hide (show els[i + 1]? = some x by rw [← hji]; exact HX.out)
      have hup := HUP.out i u x hu1 HX1.out
      rw [hun, HXN.out] at hup
      have hgl := HGL.out.2 i u x hu1 HX1.out
      rw [hun, HXN.out] at hgl
      have GC := fun W h => RP pa pb (some ⟨b, o, none⟩) l cap act un jxn W h (by omega) (by omega) hl60 x.g (hide hgl)
      simp only [← hun] at GC
      have hnd := HEND.out i u hu1
      rw [← hji, HSM.out, ← show len = jH els from HLEN.out] at hnd
      obtain ⟨E, hE⟩ : ∃ E, JS els len sm = E := ⟨_, rfl⟩
      rw [hE] at hnd
      obtain ⟨e1, e2, e3, e4⟩ := E
      dsimp only at hnd
      have HND := hide hnd
      have PB := fun W h => mV (some ⟨gB, 0, none⟩) els capV len sm W (by omega) h (e1, e2, e3, e4) hE.symm
      have ib : (i : Int) ≤ 500 := by omega
      have iw : IntKind.i64.wrap ((j : Int) - 1) = i := by rw [show (j : Int) - 1 = i by omega]; exact IntWalk.i64_in _ (by omega)
      have k0 : (0 : Int) < (j : Int) := by omega
      have k1 : decide ((0 : Int) < (j : Int)) = true := decide_eq_true k0
      have k3 : (i : Int) < (els.length : Int) := by omega
      have n0 : 0 < j := h0
      have n1 : decide (0 < j) = true := decide_eq_true n0
      have n3 : i < els.length := by omega
      have HUN := hide hun
      clear hun hgl hup hnd hE hlu h0 hji
      go_cut [59] (fun s wx => s = .bool false ∧ qQ w wx ((gx, [.bool x.c, .int .i64 x.ax, .int .i64 x.ay, .int .i64 x.bx, .int .i64 x.b_y, .int .i64 x.cx, .int .i64 x.cy, .int .i64 x.r, .int .i64 x.f, .int .i64 x.s, .int .i64 x.L, .int .i64 jxn, .bool x.g], 41) :: (gq, [.slice (some ⟨gB, 0, none⟩) els.length capV, .int .i64 len], 34) :: (gS, [.int .i64 s0, .int .i64 s1, .int .i64 s2, .int .i64 s3, .int .i64 s4, .int .i64 s5, .int .i64 s6, .int .i64 s7], 30) :: (gP, [.string pa, .string pb, .slice (some ⟨b, o, none⟩) l.length cap, .int .i64 act], 24) :: [(gB, cur, 41)]))
      case first =>
       have q0 : W.cell? ⟨gq, 0, none⟩ = some (.slice (some ⟨gB, 0, none⟩) els.length capV) := hM.cell (Lk.tail Lk.head) 0
       rcases hg : x.g with _ | _
       · have hmt := HMT.out i u x hu1 HX1.out hg
         have c12 : W.cell? ⟨gx, 12, none⟩ = some (.bool false) := by rw [← hg]; exact hM.cell Lk.head 12
         have c1 : W.cell? ⟨gx, 1, none⟩ = some (.int .i64 u.bx) := by rw [← hmt.1]; exact hM.cell Lk.head 1
         have c2 : W.cell? ⟨gx, 2, none⟩ = some (.int .i64 u.b_y) := by rw [← hmt.2]; exact hM.cell Lk.head 2
         have r3 : W.cell? ⟨gB, i * 13 + 3, none⟩ = some (.int .i64 u.bx) := (hM.cell (by ((repeat constructor) <;> fail)) _).trans (YJ HCU.out hu1 (i := 3) rfl)
         have r4 : W.cell? ⟨gB, i * 13 + 4, none⟩ = some (.int .i64 u.b_y) := (hM.cell (by ((repeat constructor) <;> fail)) _).trans (YJ HCU.out hu1 (i := 4) rfl)
         clear hu1 hg hmt
         go_quiet (fail)
         all_goals
          go_wp2_with fail
          all_goals
           go_meet
           exact ⟨by first | rfl | (simp; done), by first | exact hM | exact zG hM | exact zK hM _ | exact zG (zG hM)⟩
       · have c12 : W.cell? ⟨gx, 12, none⟩ = some (.bool true) := by rw [← hg]; exact hM.cell Lk.head 12
         clear hu1 hg
         go_quiet (fail)
         all_goals
          go_wp2_with fail
          all_goals
           go_meet
           exact ⟨by first | rfl | (simp; done), by first | exact hM | exact zG hM | exact zK hM _ | exact zG (zG hM)⟩
      case rest =>
      clear hM
      obtain ⟨rfl, hM⟩ := hcut
      obtain ⟨pre, post, hcu, hpre0⟩ := RO HCU.out hu1
      have hpre := hide hpre0
      subst hcu
      clear hpre0 hu1
      go_upto_region 14 with (first | (go_at_call 8; (with_reducible refine cb hM (PB _ (hide (JH hM HO.out (by intro b hb; repeat (first | exact hb | refine List.mem_cons_of_mem _ ?_))))) ?_); clear hM; intro W1 hM) | ((with_reducible refine lX ?_); refine mL ?_) | ((with_reducible refine sX ?_); refine mS ?_; clear hM; intro W hM) | ((with_reducible refine bX ?_); refine mB ?_; clear hM; intro g W hM) | ((with_reducible refine zX ?_); refine mB ?_; clear hM; intro g W hM))
      obtain ⟨gb, rfl⟩ : ∃ gb, gb = g := ⟨_, rfl⟩
      try simp only [pS, pN, sA, sB, sC]
      go_cut [82] (fun s wx => s = .bool false ∧ qQ w wx ((gb, [.int .i64 e1, .int .i64 e2], 26) :: (gx, [.bool x.c, .int .i64 x.ax, .int .i64 x.ay, .int .i64 x.bx, .int .i64 x.b_y, .int .i64 x.cx, .int .i64 x.cy, .int .i64 x.r, .int .i64 x.f, .int .i64 x.s, .int .i64 x.L, .int .i64 jxn, .bool x.g], 41) :: (gq, [.slice (some ⟨gB, 0, none⟩) els.length capV, .int .i64 len], 34) :: (gS, [.int .i64 s0, .int .i64 s1, .int .i64 s2, .int .i64 s3, .int .i64 s4, .int .i64 s5, .int .i64 s6, .int .i64 s7], 30) :: (gP, [.string pa, .string pb, .slice (some ⟨b, o, none⟩) l.length cap, .int .i64 act], 24) :: [(gB, pre ++ mid u.cells post, 41)]))
      case first =>
       by_cases hr : e4 = 0
       · have HN := hide (HND.out hr)
         subst hr
         refine qW [(gb, [.int .i64 e1, .int .i64 e2], 26), (gq, [.slice (some ⟨gB, 0, none⟩) els.length capV, .int .i64 len], 34), (gB, pre ++ mid u.cells post, 41)] hM (by kernel_rfl) ?_; (clear hM; intro W hM)
         refine rD 0 ?_
         refine rD 1 ?_
         refine rD 2 ?_
         refine rE 3 ?_
         refine rE 4 ?_
         refine rE 5 ?_
         refine rE 6 ?_
         first | refine eP 7 (v := .int .i64 i) hM ?_ (hv := by (intro W0; go_simp; first | done | exact iw | omega)) | refine eS 7 hM ?_
         try simp only [pS, pN, sA, sB, sC]
         first | refine eP 8 (v := .pointer (some ⟨gB, i * 13, none⟩)) hM ?_ (hv := by (intro W0; go_simp; first | done | omega | (intro h; exact absurd h (by omega)))) | refine eS 8 hM ?_
         try simp only [pS, pN, sA, sB, sC]
         refine rE 9 ?_
         first | refine eM 10 hM ?_ (hC := vG hpre.out (by ((repeat constructor) <;> fail))) | refine eS 10 hM ?_
         try simp only [pS, pN, sA, sB, sC]
         first
          | refine Rw 11 hM ?_
          | (refine eC 11 (fun K' hK' => ?_)
             go_wp2_with (first | (go_at_call 9; (with_reducible refine cb hM (RL _ _ _ _ _ _ HN.out (by omega)) ?_); clear hM; intro W1 hM))
             refine rK hK' hM ?_; clear hK' K')
         refine rE 12 ?_
         refine rD 13 ?_
         refine qE (by kernel_rfl) ?_
         go_wp2_with fail
         all_goals
          go_meet
          exact ⟨rfl, hM⟩
       · have e5 : (e4 == 0) = false := by simpa using hr
         clear hr
         go_quiet (fail)
         all_goals
          go_wp2_with fail
          all_goals
           go_meet
           exact ⟨by first | rfl | (simp; done), by first | exact hM | exact zG hM | exact zK hM _ | exact zG (zG hM)⟩
      case rest =>
      clear hM
      obtain ⟨rfl, hM⟩ := hcut
      go_upto_region 17 with (first | (go_at_call 8; (with_reducible refine cb hM (PA _ (hide (JH hM HO.out (by intro b hb; repeat (first | exact hb | refine List.mem_cons_of_mem _ ?_))))) ?_); clear hM; intro W1 hM) | ((with_reducible refine lX ?_); refine mL ?_) | ((with_reducible refine sX ?_); refine mS ?_; clear hM; intro W hM) | ((with_reducible refine bX ?_); refine mB ?_; clear hM; intro g W hM) | ((with_reducible refine zX ?_); refine mB ?_; clear hM; intro g W hM))
      obtain ⟨ga, rfl⟩ : ∃ ga, ga = g := ⟨_, rfl⟩
      try simp only [pS, pN, sA, sB, sC]
      go_cut [99] (fun s wx => s = .bool false ∧ qQ w wx ((ga, [.int .i64 a1, .int .i64 a2], 26) :: (gb, [.int .i64 e1, .int .i64 e2], 26) :: (gx, [.bool x.c, .int .i64 x.ax, .int .i64 x.ay, .int .i64 x.bx, .int .i64 x.b_y, .int .i64 x.cx, .int .i64 x.cy, .int .i64 x.r, .int .i64 x.f, .int .i64 x.s, .int .i64 x.L, .int .i64 jxn, .bool x.g], 41) :: (gq, [.slice (some ⟨gB, 0, none⟩) els.length capV, .int .i64 len], 34) :: (gS, [.int .i64 s0, .int .i64 s1, .int .i64 s2, .int .i64 s3, .int .i64 s4, .int .i64 s5, .int .i64 s6, .int .i64 s7], 30) :: (gP, [.string pa, .string pb, .slice (some ⟨b, o, none⟩) l.length cap, .int .i64 act], 24) :: [(gB, pre ++ mid u.cells post, 41)]))
      case first =>
       by_cases hr : a4 = 0
       · have HN := hide (HCS.out hr)
         subst hr
         go_wp2_with (first | (go_at_call 9; (with_reducible refine cb hM (RL _ _ _ _ _ _ HN.out (by omega)) ?_); clear hM; intro W1 hM) | ((with_reducible refine lX ?_); refine mL ?_) | ((with_reducible refine sX ?_); refine mS ?_; clear hM; intro W hM) | ((with_reducible refine bX ?_); refine mB ?_; clear hM; intro g W hM) | ((with_reducible refine zX ?_); refine mB ?_; clear hM; intro g W hM))
         all_goals
          go_meet
          exact ⟨rfl, hM⟩
       · have e1 : (a4 == 0) = false := by simpa using hr
         clear hr
         go_wp2_with (first | ((with_reducible refine lX ?_); refine mL ?_) | ((with_reducible refine sX ?_); refine mS ?_; clear hM; intro W hM) | ((with_reducible refine bX ?_); refine mB ?_; clear hM; intro g W hM) | ((with_reducible refine zX ?_); refine mB ?_; clear hM; intro g W hM))
         all_goals
          go_meet
          exact ⟨rfl, hM⟩
      case rest =>
      clear hM
      obtain ⟨rfl, hM⟩ := hcut
      go_upto_region 19 with (first | ((with_reducible refine lX ?_); refine mL ?_) | ((with_reducible refine sX ?_); refine mS ?_; clear hM; intro W hM) | ((with_reducible refine bX ?_); refine mB ?_; clear hM; intro g W hM) | ((with_reducible refine zX ?_); refine mB ?_; clear hM; intro g W hM))
      try simp only [pS, pN, sA, sB, sC]
      refine qW [(gx, [.bool x.c, .int .i64 x.ax, .int .i64 x.ay, .int .i64 x.bx, .int .i64 x.b_y, .int .i64 x.cx, .int .i64 x.cy, .int .i64 x.r, .int .i64 x.f, .int .i64 x.s, .int .i64 x.L, .int .i64 jxn, .bool x.g], 41), (gP, [.string pa, .string pb, .slice (some ⟨b, o, none⟩) l.length cap, .int .i64 act], 24), (gq, [.slice (some ⟨gB, 0, none⟩) els.length capV, .int .i64 len], 34), (gB, pre ++ mid u.cells post, 41)] hM (by kernel_rfl) ?_; (clear hM; intro W hM)
      refine rD 0 ?_
      refine rD 1 ?_
      refine rD 2 ?_
      refine rD 3 ?_
      refine rD 4 ?_
      refine rD 5 ?_
      refine dP 6 (v := .pointer (some ⟨b, o + jxn * 20, none⟩)) hM ?_ (hv := by (intro W0; go_simp; first | done | omega | (intro h; exact absurd h (by omega))))
      try simp only [pS, pN, sA, sB, sC]
      refine rD 7 ?_
      refine dC 8 (fun K' hK' => ?_)
      refine oO hM HG0.out ?_
      refine rK hK' hM ?_; clear hK' K'
      refine rD 9 ?_
      refine rE 10 ?_
      first | refine eP 11 (v := .bool true) hM ?_ (hv := by (intro W0; go_simp; first | done | omega)) | refine eS 11 hM ?_
      try simp only [pS, pN, sA, sB, sC]
      refine rE 12 ?_
      refine rE 13 ?_
      refine rE 14 ?_
      refine rE 15 ?_
      refine rE 16 ?_
      first | refine eP 17 (v := .int .i64 i) hM ?_ (hv := by (intro W0; go_simp; first | done | exact iw | omega)) | refine eS 17 hM ?_
      try simp only [pS, pN, sA, sB, sC]
      first | refine eP 18 (v := .pointer (some ⟨gB, i * 13, none⟩)) hM ?_ (hv := by (intro W0; go_simp; first | done | omega | (intro h; exact absurd h (by omega)))) | refine eS 18 hM ?_
      try simp only [pS, pN, sA, sB, sC]
      refine rE 19 ?_
      first | refine eL 20 hM ?_ (hv := QK hpre.out rfl) | refine eS 20 hM ?_
      try simp only [pS, pN, sA, sB, sC]
      refine rE 21 ?_
      refine rE 22 ?_
      first
       | refine Rw 23 hM ?_
       | (refine eC 23 (fun K' hK' => ?_)
          go_wp2_with (first | (go_at_call 10; (with_reducible refine cb hM (GC _ (hide (jR hM hp.out))) ?_); clear hM; intro W1 hM))
          refine rK hK' hM ?_; clear hK' K')
      refine rE 24 ?_
      refine rD 25 ?_
      refine rD 26 ?_
      refine qE (by kernel_rfl) ?_
      go_wp2_with (first | ((with_reducible refine lX ?_); refine mL ?_) | ((with_reducible refine sX ?_); refine mS ?_; clear hM; intro W hM) | ((with_reducible refine bX ?_); refine mB ?_; clear hM; intro g W hM) | ((with_reducible refine zX ?_); refine mB ?_; clear hM; intro g W hM))
      all_goals
       go_roundw
       case rel => exact ⟨j + 1, hlt, by rw [HS.out], by go_num, qz (qz (qz hM))⟩
       case measure => simp [intOf]; omega
  · have hje : j = els.length := by omega
    have hS : jH (els.take j) = len := by rw [hje, List.take_length, HLEN.out]
    rw [hS]
    clear hje hS
    go_wp2_with (first | ((with_reducible refine lX ?_); refine mL ?_) | ((with_reducible refine sX ?_); refine mS ?_; clear hM; intro W hM) | ((with_reducible refine bX ?_); refine mB ?_; clear hM; intro g W hM) | ((with_reducible refine zX ?_); refine mB ?_; clear hM; intro g W hM))
    all_goals
     go_ret
     exact ⟨by first | rfl | simp, hM.below⟩
end Go.Proofs.YtdlognnifmihnaaGreatDoor
/-
  TopConnected: the row's step: the given statement 'TopConnectedSaid' out of the walk.
-/
namespace Go.Proofs.YtdlognnifmihnaaGreatDoor.topConnected
open Go.ChangeShapes Go.WideShapes Go.ChangeAt Go.RowKit
theorem own : ownKnob Tryz.prog.godebug = none := by kernel_rfl
theorem laidOut : laidOutB Tryz.prog = true := Qs
theorem typed : (Tryz.f3.params.toList.all fun t => Tryz.prog.readableRec t && decide (t < Tryz.prog.types.size)) = true := by kernel_rfl
theorem VN : ∀ t ∈ Tryz.f3.params.toList, Tryz.prog.readableRec t = true ∧ t < Tryz.prog.types.size := by
 intro t ht
 have h := List.all_eq_true.1 typed t ht
 simpa using h
theorem aV : Tryz.prog.cellTypes Tryz.prog.depth 24 = some [9, 9, 22, 3] := by kernel_rfl
theorem aW : Tryz.prog.cellsOf 24 = ([9, 9, 22, 3] : List TypeId).length := by kernel_rfl
theorem aX : Tryz.prog.cellTypes Tryz.prog.depth 30 = some (List.replicate 8 2) := by kernel_rfl
theorem aY : Tryz.prog.cellsOf 30 = (List.replicate 8 2).length := by kernel_rfl
theorem lifted (os : Os) (started : os.Started) (H : Type) (enc : TypeId × Value → H) :
 ReturnsInHanded {} Tryz.checked os 3 .any (fun w args => (Rows.topConnectedSpec.pre enc Tryz.prog Tryz.f3 Rows.topConnectedRow.domain false w args ∧ laidMetH Tryz.prog gh w) ∧ sizedMet enc Tryz.prog Tryz.f3 (OpenSpec.ofChange Rows.topConnectedSpec) false w args) (Rows.topConnectedSpec.post enc Tryz.prog Tryz.f3 false true false false) := by
 refine returnsInHanded_of_change_and (C := Tryz.checked) (X := fun w _ => laidMetH Tryz.prog gh w) (fun _ _ _ hh h => h.of_heap hh) own started (by kernel_rfl) Tryz.func3
  (ChangeSpec.witness_shaped (enc := enc) (C := Tryz.checked) (os := os) (X := fun w _ => laidMetH Tryz.prog gh w) false (World.doorLaid Tryz.prog 400 os) #[.agg #[.string ⟨#[]⟩, .string ⟨#[]⟩, .slice none 0 0, .int .i64 0], .agg #[.int .i64 0, .int .i64 0, .int .i64 0, .int .i64 0, .int .i64 0, .int .i64 0, .int .i64 0, .int .i64 0]] 8 rfl (World.shaped_of_RefB (by kernel_rfl) (by kernel_rfl)) (by kernel_rfl) (by kernel_rfl) (by kernel_rfl) (Vv os _)) ?_
 intro W base args ds gs before hval0 hW hcnd _ hL _
 have hval : ∀ (j : Nat) t v, Tryz.f3.params[j]? = some t → args[j]? = some v → Value.okWide Tryz.prog W .any base t v := hval0
 have hW' := hW
 obtain ⟨p, q, hA0, hV, rfl, hfz, hnd⟩ := hW
 have hlen := trodAll_length _ _ _ _ hA0
 rw [Tryz.params3] at hval hlen
 obtain ⟨v0, v1, rfl⟩ := My hlen.1
 obtain ⟨d0, d1, rfl⟩ := mN hlen.2
 obtain ⟨lp, rfl, ep, hlp⟩ := Bj (Or.inl ⟨_, Tryz.underlying24⟩) aV aW (hval 0 24 v0 rfl rfl)
 obtain ⟨pc0, pc1, pc2, pc3, rfl⟩ := sP (ep.trans (by rfl))
 have hA' := hA0
 rw [Tryz.params3] at hA'
 obtain ⟨_, _, hTp, _⟩ := hA'
 obtain ⟨pA, pB, pS, pl, pcap, pact, hpv, hpA, hpB, hpn, hpact, hpp, hpx⟩ := BK hTp ⟨pc0, pc1, pc2, pc3, rfl⟩
 obtain ⟨rfl, rfl, rfl, rfl⟩ : pc0 = .string pA ∧ pc1 = .string pB ∧ pc2 = .slice pS pl.length pcap ∧ pc3 = .int .i64 pact := by simpa using hpv
 obtain ⟨ls, rfl, es, hls⟩ := Bl (Or.inl ⟨_, Tryz.underlying30⟩) aX aY (fun u hu => by rw [List.eq_of_mem_replicate hu]; exact Tryz.underlying2) (hval 1 30 v1 rfl rfl)
 obtain ⟨s0, s1, s2, s3, s4, s5, s6, s7, rfl⟩ := sR (es.trans (by simp))
 have hs0 : qH s0 := hls _ (by simp)
 have hs1 : qH s1 := hls _ (by simp)
 have hs2 : qH s2 := hls _ (by simp)
 have hs3 : qH s3 := hls _ (by simp)
 have hs4 : qH s4 := hls _ (by simp)
 have hs5 : qH s5 := hls _ (by simp)
 have hs6 : qH s6 := hls _ (by simp)
 have hs7 : qH s7 := hls _ (by simp)
 refine (cl pA pB pS pl pcap pact s0 s1 s2 s3 s4 s5 s6 s7 hpA hpB hpact (hide hpp) (hide hpx) hs0 hs1 hs2 hs3 hs4 hs5 hs6 hs7 hL W).mono fun e W' ⟨he, hb⟩ => ?_
 subst he
 exact ⟨_, rfl, Vi (f := Tryz.f3) (s := Rows.topConnectedSpec) (tb := 4) laidOut VN rfl (by kernel_rfl) Tryz.underlying4 hW' ⟨rfl, rfl, rfl⟩ hb⟩
theorem k0 : (Rows.topConnectedRow.wf (OpenSpec.ofChange Rows.topConnectedSpec)) = true := by kernel_rfl
theorem k3 : (Tryz.f3.params.all (Tryz.prog.readableRec ·)) = true := by kernel_rfl
theorem k4 : (namedTie Tryz.prog Rows.topConnectedRow.named Rows.topConnectedSpec.vars) = true := by kernel_rfl
theorem k5 : (Rows.topConnectedRow.stops == []) = true := by kernel_rfl
theorem k7 : (Rows.topConnectedRow.knobs == []) = true := by kernel_rfl
theorem k9 : (Rows.topConnectedRow.inPlace == Tryz.prog.inPlace 3) = true := by kernel_rfl
theorem k10 : (Rows.topConnectedRow.unfollowed == Tryz.prog.unfollowed 3) = true := by kernel_rfl
theorem k11 : (Rows.topConnectedRow.recurses == Tryz.prog.recurses 3) = true := by kernel_rfl
theorem k12 : (Rows.topConnectedRow.named == Tryz.prog.varsNamed 3) = true := by kernel_rfl
theorem k13 : (Rows.topConnectedRow.maps == (Tryz.f3.params.toList ++ Rows.topConnectedSpec.plain.varTypes Tryz.prog).any (Tryz.prog.mapsRec ·)) = true := by kernel_rfl
theorem k14 : (Rows.topConnectedRow.ifaces == (Tryz.f3.params.toList ++ Rows.topConnectedSpec.plain.varTypes Tryz.prog).any (Tryz.prog.ifacesRec ·)) = true := by kernel_rfl
theorem k15 : (Rows.topConnectedRow.mapsOut == Tryz.prog.mapsAmong Tryz.f3.resultTypes.toList) = true := by kernel_rfl
theorem k16 : (Rows.topConnectedRow.loops == (Tryz.f3.params.toList ++ Rows.topConnectedSpec.plain.varTypes Tryz.prog).any (Tryz.prog.loopsFrom ·)) = true := by kernel_rfl
theorem k17 : (Rows.topConnectedRow.wideKeys == (Tryz.f3.params.toList ++ Rows.topConnectedSpec.plain.varTypes Tryz.prog ++ Tryz.f3.resultTypes.toList).any (Tryz.prog.wideKeysFrom ·)) = true := by kernel_rfl
theorem k18 : (Rows.topConnectedSpec.vars.all (Tryz.prog.varReadable ·)) = true := by kernel_rfl
theorem k19 : (Tryz.f3.resultTypes.all (fun t => Tryz.prog.readableRec t && decide (t < Tryz.prog.types.size))) = true := by kernel_rfl
theorem k20 : (Rows.topConnectedRow.ifacesOut == Tryz.f3.resultTypes.toList.any (Tryz.prog.ifacesRec ·)) = true := by kernel_rfl
theorem k21 : (Rows.topConnectedRow.loopsOut == Tryz.f3.resultTypes.toList.any (Tryz.prog.loopsFrom ·)) = true := by kernel_rfl
theorem k22 : (Rows.topConnectedRow.plainKeys == Tryz.prog.plainKeys) = true := by kernel_rfl
theorem k23 : (Rows.topConnectedRow.shortTexts.isNone) = true := by kernel_rfl
theorem k26 : (Rows.topConnectedRow.lifted == Tryz.prog.liftsFinal) = true := by rw [Vp]; rfl
theorem k27 : (Tryz.prog.make == some Rows.topConnectedRow.make) = true := by rw [Bn]; rfl
theorem k28 : (Rows.topConnectedRow.kinds == (if Rows.topConnectedRow.domain.isEmpty then [] else Tryz.f3.params.toList.map fun t => match Tryz.prog.underlying t with | some (.int k) => some k | _ => none)) = true := by kernel_rfl
theorem Cw : (Rows.topConnectedRow.pinned == Rows.topConnectedRow.pinnedBy) = true := by kernel_rfl
theorem Cz : (Rows.topConnectedRow.veiled == (Tryz.f3.params.toList ++ Rows.topConnectedSpec.plain.varTypes Tryz.prog ++ Tryz.f3.resultTypes.toList).any (Tryz.prog.veiledRec ·)) = true := by kernel_rfl
theorem CD : (Rows.topConnectedRow.veiledFits Tryz.prog Tryz.f3.params.toList (Tryz.f3.params.toList ++ Rows.topConnectedSpec.plain.varTypes Tryz.prog ++ Tryz.f3.resultTypes.toList)) = true := by kernel_rfl
theorem closed : joinedFacts Tryz.prog 3 Tryz.f3 Rows.topConnectedSpec Rows.topConnectedRow = true := (zy (zy (zy (zy (zy (zy (zy (zy (zy (zy (zy (zy (zy (zy (zy (zy (zy (zy (zy (zy (zy (zy (zy (zy (zy (zy (zy (zy (zy (zy (zy k0 Qs) Bm) k3) k4) k5) Vj) k7) Vl) k9) k10) k11) k12) k13) k14) k15) k16) k17) k18) k19) k20) k21) k22) k23) Vm) Vo) k26) k27) k28) Cw) Cz) CD)
theorem byName : Tryz.prog.funcNamed Rows.topConnectedRow.func = some 3 := by kernel_rfl
theorem inst : Tryz.f3.isInstance Tryz.prog Rows.topConnectedRow.origin Rows.topConnectedRow.targs := of_decide_eq_true (by kernel_rfl)
theorem over : Rows.topConnectedRow.holds Tryz.pinned (OpenSpec.ofChange Rows.topConnectedSpec) :=
 OpenClaim.holds_of_wide 3 Tryz.f3 rfl rfl rfl rfl rfl rfl rfl ⟨rfl, rfl, rfl, rfl, rfl⟩ rfl rfl rfl rfl rfl byName Tryz.func3 closed
  inst (by unfold Func.isWrapper; rw [if_neg (of_decide_eq_false (by kernel_rfl))]; exact ⟨rfl, rfl⟩)
  (fun os started H enc _ => lifted os started H enc)
theorem proved : Rows.TopConnectedCardSaid :=
 Claim7.holds_tied_plain_at .later [] [.data] true Rows.topConnectedCard.stood.harness false
  over (fun _ h => by cases h) (by kernel_rfl) (fun _ h => by cases h) topConnected_row_tie rfl ⟨rfl, rfl⟩ (by kernel_rfl) rfl
  (fun f fn hf hfn => by
    obtain rfl : f = 3 := Option.some.inj ((show Tryz.prog.funcNamed "flightdeck/flightdecktop.TopConnected" = some 3 by kernel_rfl).symm.trans hf) |>.symm
    obtain rfl : fn = Tryz.f3 := (Option.some.inj (Tryz.func3.symm.trans hfn)).symm
    exact ⟨by kernel_rfl, fun j t ht => by
     have hm : t ∈ Tryz.f3.params.toList := by simpa using Array.mem_of_getElem? ht
     have hall : (Tryz.f3.params.toList.all fun u => !Tryz.prog.wantsStandIn u) = true := by kernel_rfl
     exact (show Tryz.prog.wantsStandIn t = false by simpa using List.all_eq_true.1 hall t hm)⟩)
  (by kernel_rfl)
end Go.Proofs.YtdlognnifmihnaaGreatDoor.topConnected
