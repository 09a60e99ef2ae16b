/-
  The walk of the law: along the path of a plan of tracks that are flown by each entry is passed once.
-/
import Derived.Test.YteanfgobpjdmnaaGreatDoorMDrB
import Derived.Test.YteanfgobpjdmnaaGreatDoorMPast
import Derived.Test.YteanfgobpjdmnaaGreatDoorMPlanIn
import Derived.Test.YteanfgobpjdmnaaGreatDoorMSeqB
import Derived.Test.YteanfgobpjdmnaaGreatDoorCards
import Derived.Test.YteanfgobpjdmnaaGreatDoorTie
set_option maxRecDepth 100000
set_option maxHeartbeats 16000000
namespace Go.Proofs.YteanfgobpjdmnaaGreatDoor
open Go.RowKit
set_option linter.unusedVariables false
set_option linter.unusedSimpArgs false
theorem ZU {w W0 W' : World} {L B : List zz} (h : qQ w W0 L) (k : qQ W0 W' B) : qQ w W' (L ++ B) := by
 have h1 := qp h k.below
 refine ⟨h1.below, fun g cs t hm => ?_, ?_⟩
 · rcases List.mem_append.1 hm with hm | hm
   · exact h1.rows g cs t hm
   · have := k.rows g cs t hm
     exact ⟨Nat.le_trans h.below.size this.1, this.2⟩
 · rw [List.map_append, List.nodup_append]
   refine ⟨h.nodup, k.nodup, fun a ha b hb he => ?_⟩
   obtain ⟨⟨x1, x2, x3⟩, hx, e1⟩ := List.mem_map.1 ha
   obtain ⟨⟨y1, y2, y3⟩, hy, e2⟩ := List.mem_map.1 hb
   have q1 := h.lt hx
   have q2 := (k.rows y1 y2 y3 hy).1
   simp only at e1 e2
   omega
theorem JH {w W : World} {L B : List zz} {SV : Option Addr} {n capV : Nat} {els : List El} {m : Nat} (hM : qQ w W L) (hO : bG (.slice SV n capV) els B m) (hB : ∀ b ∈ B, b ∈ L) : yI W SV els := by
 intro k x hk
 obtain ⟨g, cap, cur, e, rfl, hcur⟩ := uY hO (by have := (List.getElem?_eq_some_iff.1 hk).1; omega)
 injection e with e1 e2 e3
 subst e1
 refine ⟨g, 0, rfl, ?_⟩
 have hr := Qb hcur rfl hk
 have hg := hM.rows g cur _ (hB _ (.head _))
 have key : ∀ (i : Nat) (v : Value), x.cells[i]? = some v → W.cell? ⟨g, k * 13 + i, none⟩ = some v := fun i v hv => by
  rw [cell_of_row W g _ cur.toArray _ (0, 0) hg.2]
  have hi : i < 13 := (List.getElem?_eq_some_iff.1 hv).1
  rw [← hr, List.getElem?_take, if_pos hi, List.getElem?_drop] at hv
  simpa using hv
 rw [Nat.zero_add]
 exact ⟨key 0 _ rfl, key 1 _ rfl, key 2 _ rfl, key 3 _ rfl, key 4 _ rfl, key 5 _ rfl, key 6 _ rfl, key 7 _ rfl, key 8 _ rfl, key 9 _ rfl, key 10 _ rfl, key 11 _ rfl, key 12 _ rfl⟩
theorem YJ {cur : List Value} {els : List El} {k : Nat} {x : El} (hcur : cur.take (els.length * 13) = els.flatMap El.cells) (hx : els[k]? = some x) {i : Nat} {v : Value} (hv : x.cells[i]? = some v) : cur[k * 13 + i]? = some v := by
 have hi : i < 13 := (List.getElem?_eq_some_iff.1 hv).1
 rw [← Qb hcur rfl hx, List.getElem?_take, if_pos hi, List.getElem?_drop] at hv
 exact hv
theorem RM (w : World) : Calls Tryz.prog 4 #[] w fun e w' => e = .returned (.bool true) ∧ Below w.heap.size w w' := by
 have hM := qB w
 have hc : qF 0 0 1 0 = (32400000, 0) := by
  have := aq 1 (by decide)
  unfold qF qZ yL
  simp [qf, this]
 have C := fun W => yd 0 0 1 0 W
 simp only [hc] at C
 go_enter Tryz.func4, Tryz.ntmps4
 go_wp2_with (first | (go_at_call 8; refine cb hM (C _) ?_; clear hM; intro W1 hM))
 all_goals
  go_ret
  exact ⟨rfl, hM.below⟩
theorem Lp : ∀ l : List El, (Ad l).length ≤ l.length
 | [] => Nat.le_refl _
 | [x] => Nat.le_refl _
 | x :: y :: r => by
   have h := Lp (y :: r)
   rw [Ad]
   split <;> (simp only [List.length_cons] at *; omega)
theorem Ls {l : List El} {i : Nat} {S : Li} (h : Av l i S) : S.2.2.2.length ≤ l.length := by
 rcases h with ⟨_, h⟩ | ⟨_, k, y, _, _, _, h, _⟩
 · rw [h]; exact Lp l
 · have := congrArg List.length h
   rw [List.length_append] at this
   have := Lp l
   omega
theorem Lz {l : List El} {i : Nat} {S : Li} (h : Av l i S) : S.2.2.1 = true ∨ (S.2.2.1 = false ∧ ∃ (k : Nat) (x : El), S.1 = (k : Int) ∧ l[k]? = some x) := by
 rcases h with ⟨h, _⟩ | ⟨h, k, y, h1, h2, _⟩
 · exact .inl h
 · exact .inr ⟨h, k, y, h1, h2⟩
def Ly (els : List El) (k : Nat) (x : El) : Prop := (x.c = false → 0 < k → 100 ≤ x.L) ∧ (x.c = true → ∀ (u v : El) (i : Nat), k = i + 2 → els[i + 1]? = some u → els[i]? = some v → u.c = true → v.c = true → False)
theorem LB {els : List El} (h : ∀ (k : Nat) (x : El), els[k]? = some x → Ly els k x) : ¬ AQ els := by
 rintro (⟨i, x, h1, h2, h3, h4⟩ | ⟨i, a, b, c, h1, h2, h3, h4, h5, h6⟩)
 · have := (h i x h2).1 h3 (by omega)
   omega
 · exact (h (i + 2) c h3).2 h6 b a i rfl h2 h1 h5 h4
theorem Lo {W : World} (pa pb : ByteArray) (S : Option Addr) (l : List En) (cap : Nat) (act : Int) (s0 s1 s2 s3 s4 s5 s6 s7 : Int) (ha : pa.size ≤ maxLen) (hb : pb.size ≤ maxLen) (hact : qH act) (hn : l.length ≤ 9223372036854775807) (hp : Hid (xk W S l)) (hxs : Hid (∀ (k : Nat) (x : En), l[k]? = some x → pK x)) (hs0 : qH s0) (hs1 : qH s1) (hs2 : qH s2) (hs3 : qH s3) (hs4 : qH s4) (hs5 : qH s5) (hs6 : qH s6) (hs7 : qH s7) (hL : laidMetH Tryz.prog gh W) (w : World) (hw : w = W := by rfl) :
 Calls Tryz.prog 3 #[.agg #[.string pa, .string pb, .slice S l.length cap, .int .i64 act], .agg #[.int .i64 s0, .int .i64 s1, .int .i64 s2, .int .i64 s3, .int .i64 s4, .int .i64 s5, .int .i64 s6, .int .i64 s7]] w fun e w' => e = .returned (.bool true) ∧ Below w.heap.size w w' := by
 subst hw
 have hu := hide (Bs hL)
 clear hL
 have BA := fun W h1 h2 => Qp pa pb S l cap act s0 s1 s2 s4 s5 s6 s7 W ha hb h1 hxs hs2 hs6 h2
 obtain ⟨Q, hQ⟩ : ∃ Q, ji l s0 s1 (bC s4 s5) (qO pa pb l act s0 s1 s2 s4 s5 s6 s7) = Q := ⟨_, rfl⟩
 rw [hQ] at BA
 have HQ := hide hQ
 obtain ⟨els, idx, er⟩ := Q
 have hM := qB w
 go_enter Tryz.func3, Tryz.ntmps3
 go_upto_region 0 with fail
 go_cut [2, 3] (fun t2 t3 wx => ∃ gP gS, t2 = .pointer (some ⟨gP, 0, none⟩) ∧ t3 = .pointer (some ⟨gS, 0, none⟩) ∧ qQ w wx [(gS, [.int .i64 s0, .int .i64 s1, .int .i64 s2, .int .i64 s3, .int .i64 s4, .int .i64 s5, .int .i64 s6, .int .i64 s7], 30), (gP, [.string pa, .string pb, .slice S l.length cap, .int .i64 act], 24)])
 case first =>
  go_wp2_with (first | ((with_reducible refine lX ?_); refine mL ?_) | ((with_reducible refine sX ?_); refine mS ?_; clear hM; intro W hM) | ((with_reducible refine bX ?_); refine mB ?_; clear hM; intro g W hM) | ((with_reducible refine zX ?_); refine mB ?_; clear hM; intro g W hM))
  all_goals
   go_meet
   exact ⟨_, _, rfl, rfl, hM⟩
 case rest =>
 clear hM
 obtain ⟨gP, gS, rfl, rfl, hM⟩ := hcut
 go_wp2_with (first | (go_at_call 4; (with_reducible refine cb hM (RM _) ?_); clear hM; intro W1 hM) | ((with_reducible refine lX ?_); refine mL ?_) | ((with_reducible refine sX ?_); refine mS ?_; clear hM; intro W hM) | ((with_reducible refine zX ?_); refine mB ?_; clear hM; intro g W hM))
 go_loopw [25] (fun s25 wx => ∃ i : Nat, i ≤ l.length ∧ Hid (∀ (k : Nat) (x : En), k < i → l[k]? = some x → x.gap = false ∧ x.ov = false ∧ (0 < k → x.ty = 2)) ∧ s25 = .int .i64 i ∧ qQ w wx ((gS, [.int .i64 s0, .int .i64 s1, .int .i64 s2, .int .i64 s3, .int .i64 s4, .int .i64 s5, .int .i64 s6, .int .i64 s7], 30) :: (gP, [.string pa, .string pb, .slice S l.length cap, .int .i64 act], 24) :: [])) (fun i _ => l.length - (intOf i).toNat)
 case atStart => exact ⟨0, Nat.zero_le _, hide (fun k x h => by omega), rfl, hM⟩
 case round =>
  clear hM
  obtain ⟨i, hi, HI, rfl, hM⟩ := hrel
  by_cases hlt : i < l.length
  · obtain ⟨x, hx⟩ : ∃ x, l[i]? = some x := ⟨_, List.getElem?_eq_getElem hlt⟩
    obtain ⟨b, o, rfl, hat⟩ := hp.out i x hx
    have HAT := hide hat
    have HX := hide hx
    clear hat hx
    go_upto_region 6 with (first | ((with_reducible refine lX ?_); refine uT hM rfl (by first | exact rfl | (go_simp; done)) rfl (BC rfl) HAT.out (Qu rfl) ?_) | ((with_reducible refine lX ?_); refine mL ?_) | ((with_reducible refine sX ?_); refine mS ?_; clear hM; intro W hM) | ((with_reducible refine zX ?_); refine mB ?_; clear hM; intro g W hM))
    obtain ⟨gx, rfl⟩ : ∃ gx, gx = g := ⟨_, rfl⟩
    try simp only [pS, pN, sA, sB, sC]
    go_cut [46] (fun s wx => ∃ (q : Bool) (cs : List Value), s = .bool q ∧ Hid (q = false → x.gap = false ∧ x.ov = false ∧ (0 < i → x.ty = 2)) ∧ qQ w wx ((gx, cs, 39) :: (gS, [.int .i64 s0, .int .i64 s1, .int .i64 s2, .int .i64 s3, .int .i64 s4, .int .i64 s5, .int .i64 s6, .int .i64 s7], 30) :: (gP, [.string pa, .string pb, .slice (some ⟨b, o, none⟩) l.length cap, .int .i64 act], 24) :: []))
    case first =>
     rcases hg : x.gap with _ | _
     · rw [hg] at hM
       rcases ho : x.ov with _ | _
       · rw [ho] at hM
         by_cases h0 : i = 0
         · have k1 : ¬ 0 < i := by omega
           have k2 := decide_eq_false k1
           have k3 : ¬ (0 : Int) < (i : Int) := by omega
           have k4 := decide_eq_false k3
           have HR := hide (show x.gap = false ∧ x.ov = false ∧ (0 < i → x.ty = 2) from ⟨hg, ho, fun h => absurd h k1⟩)
           clear hg ho h0
           go_wp2_with (first | ((with_reducible refine lX ?_); refine mL ?_))
           all_goals
            go_meet
            exact ⟨_, _, rfl, hide (fun _ => HR.out), hM⟩
         · have k1 : 0 < i := by omega
           have k2 := decide_eq_true k1
           have k3 : (0 : Int) < (i : Int) := by omega
           have k4 := decide_eq_true k3
           by_cases ht : x.ty = 2
           · rw [ht] at hM
             have HR := hide (show x.gap = false ∧ x.ov = false ∧ (0 < i → x.ty = 2) from ⟨hg, ho, fun _ => ht⟩)
             clear hg ho ht h0
             go_wp2_with (first | ((with_reducible refine lX ?_); refine mL ?_))
             all_goals
              go_meet
              exact ⟨_, _, rfl, hide (fun _ => HR.out), hM⟩
           · have k5 : (x.ty != 2) = true := by simpa using ht
             clear hg ho ht h0
             go_wp2_with (first | ((with_reducible refine lX ?_); refine mL ?_))
             all_goals
              go_meet
              exact ⟨_, _, rfl, hide (fun h => by cases h), hM⟩
       · rw [ho] at hM
         clear hg ho
         go_wp2_with (first | ((with_reducible refine lX ?_); refine mL ?_))
         all_goals
          go_meet
          exact ⟨_, _, rfl, hide (fun h => by cases h), hM⟩
     · rw [hg] at hM
       clear hg
       go_wp2_with (first | ((with_reducible refine lX ?_); refine mL ?_))
       all_goals
        go_meet
        exact ⟨_, _, rfl, hide (fun h => by cases h), hM⟩
    case rest =>
    clear hM
    obtain ⟨q, cs, rfl, HQ1, hM⟩ := hcut
    rcases q with _ | _
    · have HI1 := hide (show ∀ (k : Nat) (y : En), k < i + 1 → l[k]? = some y → y.gap = false ∧ y.ov = false ∧ (0 < k → y.ty = 2) from fun k y hk hy => by
       by_cases hki : k < i
       · exact HI.out k y hki hy
       · obtain rfl : k = i := by omega
         rw [HX.out] at hy
         injection hy with hy
         rw [← hy]
         exact HQ1.out rfl)
      clear HQ1
      go_wp2_with (first | ((with_reducible refine lX ?_); refine mL ?_))
      all_goals
       go_roundw
       case rel => exact ⟨i + 1, hlt, HI1, by go_num, qz hM⟩
       case measure => simp [intOf]; omega
    · clear HQ1
      go_wp2_with (first | ((with_reducible refine lX ?_); refine mL ?_))
      all_goals
       go_ret
       exact ⟨rfl, hM.below⟩
  · have HTF := hide (fun (k : Nat) (x : En) (hx : l[k]? = some x) => HI.out k x (by have := (List.getElem?_eq_some_iff.1 hx).1; omega) hx)
    clear HI
    by_cases hs : 150 ≤ s4
    rotate_left 1
    · have k1 : s4 < 150 := by omega
      have k2 := decide_eq_true k1
      clear hQ HQ
      go_wp2_with (first | ((with_reducible refine lX ?_); refine mL ?_))
      all_goals
       go_ret
       exact ⟨rfl, hM.below⟩
    have k1 : ¬ s4 < 150 := by omega
    have k2 := decide_eq_false k1
    by_cases he : er = 0
    rotate_left 1
    · have hne : (er != 0) = true := by simpa using he
      clear he hQ HQ
      go_wp2_with (first | (go_at_call 5; (with_reducible refine (BA _ (hide (jR hM hp.out)) (hide (qD hM hu.out))).mono ?_); rintro e W1 ⟨V, len, B, rfl, hO, hlen, hB⟩; replace hM := ZU hM hB; clear hB; simp only [List.cons_append, List.nil_append] at hM; obtain ⟨SV, capV, hVV⟩ := ut hO.1; subst hVV; have HO := hide hO; clear hO; have HLEN := hide hlen; clear hlen) | ((with_reducible refine lX ?_); refine mL ?_) | ((with_reducible refine sX ?_); refine mS ?_; clear hM; intro W hM) | ((with_reducible refine zX ?_); refine mB ?_; clear hM; intro g W hM))
      all_goals
       go_ret
       exact ⟨rfl, hM.below⟩
    subst he
    have HT1 := ES (pa := pa) (pb := pb) (act := act) (fx := s0) (fy := s1) (c := s2) (spd := s4) (bank := s5) (oalt := s6) (gr := s7) HTF.out hs (by rw [hQ])
    obtain ⟨d, hd, hBu⟩ := xK (l := l) (fx := s0) (fy := s1) (R := bC s4 s5) (pa := pa) (pb := pb) (act := act) (c := s2) (spd := s4) (bank := s5) (oalt := s6) (gr := s7) (by rw [hQ])
    have HG0 := (LH HTF.out (by rw [hQ]) : ∀ x ∈ (ji l s0 s1 (bC s4 s5) (qO pa pb l act s0 s1 s2 s4 s5 s6 s7)).1, x.g = false)
    rw [hQ] at hd HT1 HG0
    dsimp only at hd HT1 HG0
    subst hd
    obtain ⟨els, hels⟩ : ∃ els, d.els = els := ⟨_, rfl⟩
    have HOK := hide (show vX els (jH els) = 0 by rw [← hels]; exact RV hBu)
    have HVB := hide (show ∀ x ∈ els, qf x.bx x.b_y = true by rw [← hels]; exact fun x hx => (hBu.val.els x hx).b)
    have HGF := hide (show ∀ x ∈ els, x.g = false by rw [← hels]; exact HG0)
    have HT := hide (show AQ els ∨ Passes els by rw [← hels]; exact HT1)
    have HL5 : els.length ≤ 500 := by rw [← hels]; have := hBu.len; omega
    rw [hels] at BA
    clear hels hBu hQ HQ HT1 HG0
    go_upto_region 12 with (first | (go_at_call 5; (with_reducible refine (BA _ (hide (jR hM hp.out)) (hide (qD hM hu.out))).mono ?_); rintro e W1 ⟨V, len, B, rfl, hO, hlen, hB⟩; replace hM := ZU hM hB; clear hB; simp only [List.cons_append, List.nil_append] at hM; obtain ⟨SV, capV, hVV⟩ := ut hO.1; subst hVV; have HO := hide hO; clear hO; have HLEN := hide hlen; clear hlen) | ((with_reducible refine lX ?_); refine mL ?_) | ((with_reducible refine sX ?_); refine mS ?_; clear hM; intro W hM) | ((with_reducible refine zX ?_); refine mB ?_; clear hM; intro g W hM))
    obtain ⟨gq, rfl⟩ : ∃ gq, gq = g := ⟨_, rfl⟩
    try simp only [pS, pN, sA, sB, sC]
    by_cases hz : els.length = 0
    · have z1 : ((els.length : Int) == 0) = true := by simp [hz]
      have z2 : (els.length == 0) = true := by simp [hz]
      clear hz
      go_wp2_with (first | ((with_reducible refine lX ?_); refine mL ?_))
      all_goals
       go_ret
       exact ⟨rfl, hM.below⟩
    have z1 : ((els.length : Int) == 0) = false := beq_eq_false_iff_ne.2 (by omega)
    have z2 : (els.length == 0) = false := by simp [hz]
    obtain ⟨gB, capB, cur, eq1, rfl, hcur⟩ := uY HO.out (by omega)
    simp only [Value.slice.injEq, true_and] at eq1
    obtain ⟨rfl, rfl⟩ := eq1
    have HCU := hide hcur
    have hpos : 0 < els.length := by omega
    clear hcur hz
    go_wp2_with (first | ((with_reducible refine lX ?_); refine mL ?_))
    go_loopw [75] (fun s75 wx => ∃ j : Nat, j ≤ els.length ∧ Hid (∀ (k : Nat) (x : El), k < j → els[k]? = some x → Ly els k x) ∧ s75 = .int .i64 j ∧ qQ w wx ((gq, [.slice (some ⟨gB, 0, none⟩) els.length capV, .int .i64 len], 42) :: (gS, [.int .i64 s0, .int .i64 s1, .int .i64 s2, .int .i64 s3, .int .i64 s4, .int .i64 s5, .int .i64 s6, .int .i64 s7], 30) :: (gP, [.string pa, .string pb, .slice S l.length cap, .int .i64 act], 24) :: [(gB, cur, 49)])) (fun i _ => els.length - (intOf i).toNat)
    case atStart => exact ⟨0, Nat.zero_le _, hide (fun k x h => by omega), rfl, hM⟩
    case round =>
     clear hM
     obtain ⟨j, hj, HI, rfl, hM⟩ := hrel
     by_cases hlt : j < els.length
     · obtain ⟨x, hx⟩ : ∃ x, els[j]? = some x := ⟨_, List.getElem?_eq_getElem hlt⟩
       have HC := hide (Qb HCU.out rfl hx)
       have HX := hide hx
       clear hx
       go_upto_region 17 with (first | ((with_reducible refine lX ?_); refine fj hM rfl rfl rfl (by ((repeat constructor) <;> fail)) HC.out ?_) | ((with_reducible refine lX ?_); refine mL ?_) | ((with_reducible refine sX ?_); refine mS ?_; clear hM; intro W hM) | ((with_reducible refine zX ?_); refine mB ?_; clear hM; intro g W hM))
       obtain ⟨gx, rfl⟩ : ∃ gx, gx = g := ⟨_, rfl⟩
       try simp only [pS, pN, sA, sB, sC]
       go_cut [117] (fun s wx => ∃ (q : Bool) (cs : List Value), s = .bool q ∧ Hid (q = false → Ly els j x) ∧ qQ w wx ((gx, cs, 49) :: (gq, [.slice (some ⟨gB, 0, none⟩) els.length capV, .int .i64 len], 42) :: (gS, [.int .i64 s0, .int .i64 s1, .int .i64 s2, .int .i64 s3, .int .i64 s4, .int .i64 s5, .int .i64 s6, .int .i64 s7], 30) :: (gP, [.string pa, .string pb, .slice S l.length cap, .int .i64 act], 24) :: [(gB, cur, 49)]))
       case first =>
        rcases hc : x.c with _ | _
        · rw [hc] at hM
          by_cases h1 : x.L < 100
          · have k3 := decide_eq_true h1
            by_cases h0 : 0 < j
            · have k4 := decide_eq_true h0
              have k5 : (0 : Int) < (j : Int) := by omega
              have k6 := decide_eq_true k5
              clear hc
              go_wp2_with (first | ((with_reducible refine lX ?_); refine mL ?_))
              all_goals
               go_meet
               exact ⟨_, _, rfl, hide (fun h => by cases h), hM⟩
            · have k4 := decide_eq_false h0
              have k5 : ¬ (0 : Int) < (j : Int) := by omega
              have k6 := decide_eq_false k5
              have HR := hide (show Ly els j x from ⟨fun _ h => absurd h h0, fun h => (by rw [hc] at h; cases h)⟩)
              clear hc
              go_wp2_with (first | ((with_reducible refine lX ?_); refine mL ?_))
              all_goals
               go_meet
               exact ⟨_, _, rfl, hide (fun _ => HR.out), hM⟩
          · have k3 := decide_eq_false h1
            have HR := hide (show Ly els j x from ⟨fun _ _ => by omega, fun h => (by rw [hc] at h; cases h)⟩)
            clear hc
            go_wp2_with (first | ((with_reducible refine lX ?_); refine mL ?_))
            all_goals
             go_meet
             exact ⟨_, _, rfl, hide (fun _ => HR.out), hM⟩
        · rw [hc] at hM
          by_cases h0 : 1 < j
          · have k4 := decide_eq_true h0
            have k5 : (1 : Int) < (j : Int) := by omega
            have k6 := decide_eq_true k5
            obtain ⟨i2, hi2⟩ : ∃ i, j = i + 2 := ⟨j - 2, by omega⟩
            obtain ⟨i1, hi1⟩ : ∃ i, j = i + 1 := ⟨j - 1, by omega⟩
            obtain ⟨u, hu⟩ : ∃ u, els[i1]? = some u := ⟨_, List.getElem?_eq_getElem (by omega)⟩
            obtain ⟨v, hv⟩ : ∃ v, els[i2]? = some v := ⟨_, List.getElem?_eq_getElem (by omega)⟩
            have U1 := hide (YJ HCU.out hu (i := 0) rfl)
            have U2 := hide (YJ HCU.out hv (i := 0) rfl)
            have iw1 : IntKind.i64.wrap ((j : Int) - 1) = i1 := by rw [show (j : Int) - 1 = i1 by omega]; exact IntWalk.i64_in _ (by omega)
            have iw2 : IntKind.i64.wrap ((j : Int) - 2) = i2 := by rw [show (j : Int) - 2 = i2 by omega]; exact IntWalk.i64_in _ (by omega)
            have b1 : i1 < els.length := by omega
            have b2 : i2 < els.length := by omega
            have b3 : (i1 : Int) < (els.length : Int) := by omega
            have b4 : (i2 : Int) < (els.length : Int) := by omega
            rcases huc : u.c with _ | _
            · have HR := hide (show Ly els j x from ⟨fun h => (by rw [hc] at h; cases h), fun _ u' v' i e1 e2 e3 e4 e5 => by
               have : i + 1 = i1 := by omega
               rw [this, hu] at e2
               injection e2 with e2
               rw [← e2, huc] at e4
               cases e4⟩)
              rw [huc] at U1
              clear hc huc hu hv hi1 hi2
              go_wp2_with (first | ((with_reducible refine lX ?_); first | refine aL hM rfl rfl ?_ (hv := U1.out) | refine aL hM rfl rfl ?_ (hv := U2.out)) | ((with_reducible refine lX ?_); refine mL ?_))
              all_goals
               go_meet
               exact ⟨_, _, rfl, hide (fun _ => HR.out), hM⟩
            · rcases hvc : v.c with _ | _
              · have HR := hide (show Ly els j x from ⟨fun h => (by rw [hc] at h; cases h), fun _ u' v' i e1 e2 e3 e4 e5 => by
                 have : i = i2 := by omega
                 rw [this, hv] at e3
                 injection e3 with e3
                 rw [← e3, hvc] at e5
                 cases e5⟩)
                rw [huc] at U1
                rw [hvc] at U2
                clear hc huc hvc hu hv hi1 hi2
                go_wp2_with (first | ((with_reducible refine lX ?_); first | refine aL hM rfl rfl ?_ (hv := U1.out) | refine aL hM rfl rfl ?_ (hv := U2.out)) | ((with_reducible refine lX ?_); refine mL ?_))
                all_goals
                 go_meet
                 exact ⟨_, _, rfl, hide (fun _ => HR.out), hM⟩
              · rw [huc] at U1
                rw [hvc] at U2
                clear hc huc hvc hu hv hi1 hi2
                go_wp2_with (first | ((with_reducible refine lX ?_); first | refine aL hM rfl rfl ?_ (hv := U1.out) | refine aL hM rfl rfl ?_ (hv := U2.out)) | ((with_reducible refine lX ?_); refine mL ?_))
                all_goals
                 go_meet
                 exact ⟨_, _, rfl, hide (fun h => by cases h), hM⟩
          · have k4 := decide_eq_false h0
            have k5 : ¬ (1 : Int) < (j : Int) := by omega
            have k6 := decide_eq_false k5
            have HR := hide (show Ly els j x from ⟨fun h => (by rw [hc] at h; cases h), fun _ u v i e => by omega⟩)
            clear hc
            go_wp2_with (first | ((with_reducible refine lX ?_); refine mL ?_))
            all_goals
             go_meet
             exact ⟨_, _, rfl, hide (fun _ => HR.out), hM⟩
       case rest =>
       clear hM
       obtain ⟨q, cs, rfl, HQ1, hM⟩ := hcut
       rcases q with _ | _
       · have HI1 := hide (show ∀ (k : Nat) (y : El), k < j + 1 → els[k]? = some y → Ly els k y from fun k y hk hy => by
          by_cases hki : k < j
          · exact HI.out k y hki hy
          · obtain rfl : k = j := by omega
            rw [HX.out] at hy
            injection hy with hy
            rw [← hy]
            exact HQ1.out rfl)
         clear HQ1
         go_wp2_with (first | ((with_reducible refine lX ?_); refine mL ?_))
         all_goals
          go_roundw
          case rel => exact ⟨j + 1, hlt, HI1, by go_num, qz hM⟩
          case measure => simp [intOf]; omega
       · clear HQ1
         go_wp2_with (first | ((with_reducible refine lX ?_); refine mL ?_))
         all_goals
          go_ret
          exact ⟨rfl, hM.below⟩
     · have HP := hide (show Passes els from by
        rcases HT.out with h | h
        · exact absurd h (LB fun k x hx => HI.out k x (by have := (List.getElem?_eq_some_iff.1 hx).1; omega) hx)
        · exact h)
       clear HI HT
       obtain ⟨y0, hy0⟩ : ∃ y, els[0]? = some y := ⟨_, List.getElem?_eq_getElem hpos⟩
       have HRA := hide (fun i hi => AV HOK.out HVB.out HGF.out HP.out hy0 i hi)
       have HALL := hide (ET HOK.out HVB.out HGF.out HP.out hy0)
       have hlen : len = jH els := HLEN.out
       have SA := fun W h => LD (some ⟨gB, 0, none⟩) els capV len y0 W (by rw [hlen]; exact HOK.out) hy0 h
       obtain ⟨lm, hlm⟩ : ∃ i, els.length = i + 1 := ⟨els.length - 1, by omega⟩
       obtain ⟨xl, hxl⟩ : ∃ x, els[lm]? = some x := ⟨_, List.getElem?_eq_getElem (by omega)⟩
       have UL := hide (YJ HCU.out hxl (i := 0) rfl)
       rw [HP.out.last lm xl hxl (by simp [hlm])] at UL
       have iw1 : IntKind.i64.wrap ((els.length : Int) - 1) = lm := by rw [show (els.length : Int) - 1 = lm by omega]; exact IntWalk.i64_in _ (by omega)
       have b1 : lm < els.length := by omega
       have b3 : (lm : Int) < (els.length : Int) := by omega
       clear hlm hxl hy0 hlen
       go_upto_region 21 with (first | (go_at_call 6; (with_reducible refine cb hM (SA _ (hide (JH hM HO.out (by intro b hb; cases List.mem_singleton.1 hb; repeat first | exact List.mem_cons_self | refine List.mem_cons_of_mem _ ?_)))) ?_); clear hM; intro W1 hM) | ((with_reducible refine lX ?_); refine mL ?_) | ((with_reducible refine sX ?_); refine mS ?_; clear hM; intro W hM) | ((with_reducible refine zX ?_); refine mB ?_; clear hM; intro g W hM))
       obtain ⟨gg, rfl⟩ : ∃ gg, gg = g := ⟨_, rfl⟩
       try simp only [pS, pN, sA, sB, sC]
       go_wp2_with (first | ((with_reducible refine lX ?_); first | refine aL hM rfl rfl ?_ (hv := UL.out)) | ((with_reducible refine lX ?_); refine mL ?_))
       go_loopw [13, 140] (fun s13 s140 wx => ∃ (j : Nat) (Sg : Li) (Bp : List zz), j ≤ els.length ∧ s140 = .int .i64 j ∧ Hid (Sg = ye els len (els.take j) (0, y0.n, false, [])) ∧ Hid (Jq 3 1 s13 Sg.2.2.2.length (Sg.2.2.2.map (Value.int .i64)) Bp) ∧ qQ w wx ((gg, [.int .i64 Sg.1, .int .i64 Sg.2.1, .bool Sg.2.2.1], 51) :: (gq, [.slice (some ⟨gB, 0, none⟩) els.length capV, .int .i64 len], 42) :: (gS, [.int .i64 s0, .int .i64 s1, .int .i64 s2, .int .i64 s3, .int .i64 s4, .int .i64 s5, .int .i64 s6, .int .i64 s7], 30) :: (gP, [.string pa, .string pb, .slice S l.length cap, .int .i64 act], 24) :: (gB, cur, 49) :: Bp)) (fun _ i _ => els.length - (intOf i).toNat)
       case atStart => exact ⟨0, (0, y0.n, false, []), [], Nat.zero_le _, rfl, hide rfl, hide .nil, hM⟩
       case round =>
        clear hM
        obtain ⟨j, ⟨q1, q2, q3, q4⟩, Bp, hj, rfl, HS, HOP, hM⟩ := hrel
        by_cases hlt : j < els.length
        · obtain ⟨x, hx⟩ : ∃ x, els[j]? = some x := ⟨_, List.getElem?_eq_getElem hlt⟩
          have HC := hide (Qb HCU.out rfl hx)
          have HX := hide hx
          have ra := HRA.out j (by omega)
          have hlen : len = jH els := HLEN.out
          rw [← hlen, ← HS.out] at ra
          have rh := Lz ra
          have rl := Ls ra
          have hvx := HVB.out x (List.mem_of_getElem? hx)
          obtain ⟨R, hR⟩ : ∃ R, R = zp els len q1 q2 q3 x.bx x.b_y := ⟨_, rfl⟩
          have SM := fun W h => Lt (some ⟨gB, 0, none⟩) els capV len q1 q2 q3 x.bx x.b_y W (by rw [hlen]; exact HOK.out) hvx h rh R hR
          have HS1 := hide (show (R.1, R.2.1, R.2.2.1, q4 ++ R.2.2.2) = ye els len (els.take (j + 1)) (0, y0.n, false, []) by
           rw [List.take_add_one, hx]
           show _ = ye els len (els.take j ++ [x]) _
           rw [Ak, ← HS.out, hR])
          have ra1 := HRA.out (j + 1) hlt
          rw [← hlen, ← HS1.out] at ra1
          have rl1 := Ls ra1
          rw [List.length_append] at rl1
          obtain ⟨r1, r2, r3, r4⟩ := R
          dsimp only at SM rl rl1
          clear hx ra rh hvx hR ra1 hlen HS
          have HS1 := HS1
          obtain ⟨SP, capP, rfl, hcapP⟩ := Lj HOP.out
          have HCP := hide hcapP
          clear hcapP
          go_upto_region 28 with (first | ((with_reducible refine lX ?_); refine fj hM rfl rfl rfl (by ((repeat constructor) <;> fail)) HC.out ?_) | ((with_reducible refine lX ?_); refine mL ?_) | ((with_reducible refine sX ?_); refine mS ?_; clear hM; intro W hM) | ((with_reducible refine zX ?_); refine mB ?_; clear hM; intro g W hM))
          obtain ⟨gx, rfl⟩ : ∃ gx, gx = g := ⟨_, rfl⟩
          try simp only [pS, pN, sA, sB, sC]
          go_upto_region 29 with (first | (go_at_call 7; (with_reducible refine (SM _ (hide (JH hM HO.out (by intro b hb; cases List.mem_singleton.1 hb; repeat first | exact List.mem_cons_self | refine List.mem_cons_of_mem _ ?_)))).mono ?_); rintro e W1 ⟨V1, B1, rfl, hO1, hB1⟩; replace hM := ZU hM hB1; clear hB1; have HO1 := hide hO1; clear hO1; simp only [List.cons_append, List.nil_append] at hM) | ((with_reducible refine lX ?_); refine mL ?_) | ((with_reducible refine sX ?_); refine mS ?_; clear hM; intro W hM) | ((with_reducible refine zX ?_); refine mB ?_; clear hM; intro g W hM))
          try simp only [pS, pN, sA, sB, sC]
          replace hM := qz hM
          by_cases m00 : r4.length = 0
          · obtain rfl : r4 = [] := List.length_eq_zero_iff.1 m00
            obtain ⟨S1, cap1, rfl, _⟩ := Lj HO1.out
            go_wp2_with (first | ((with_reducible refine wV ?_); refine AF rfl rfl rfl rfl HCP.out Tryz.underlying54 Ln ?_) | ((with_reducible refine lX ?_); refine mL ?_))
            all_goals
             go_roundw
             case rel => exact ⟨j + 1, (r1, r2, r3, q4), Bp, hlt, by go_num, hide (by have h := HS1.out; rw [List.append_nil] at h; exact h), HOP, Lr hM (by simp)⟩
             case measure => simp [intOf]; omega
          · have m0 : 0 < r4.length := by omega
            obtain ⟨S1, cap1, rfl, _⟩ := Lj HO1.out
            obtain ⟨g1, cur1, rfl, rfl, hc1⟩ := Ll HO1.out m0
            have HC1 := hide hc1
            replace hM := jt hM ((List.perm_append_comm (l₁ := Bp) (l₂ := [_])).append_left [_, _, _, _, _])
            clear hc1
            simp only [List.cons_append, List.nil_append] at hM
            go_wp2_with (first | ((with_reducible refine wV ?_); refine' AE hM rfl rfl rfl rfl HOP.out ?_ Tryz.underlying54 Ln ?_ HC1.out (by simp) (by intro u hu; obtain ⟨t, _, rfl⟩ := List.mem_map.1 hu; rfl) (by decide) m0 (by omega) (by unfold maxLen; omega) ?_; rotate_left 1; (· repeat constructor); rotate_left 1; (· repeat constructor); (clear hM; intro ga capA BA W HOA hM)) | ((with_reducible refine lX ?_); refine mL ?_))
            all_goals
             go_roundw
             case rel => exact ⟨j + 1, (r1, r2, r3, q4 ++ r4), BA, hlt, by go_num, HS1, hide (by rw [List.length_append, List.map_append]; exact HOA), Lr hM (by simp)⟩
             case measure => simp [intOf]; omega
        · have hje : j = els.length := by omega
          have hS := HS.out
          rw [hje, List.take_length] at hS
          have ha := HALL.out
          rw [← show len = jH els from HLEN.out, ← hS] at ha
          dsimp only at ha
          obtain ⟨rfl, h4⟩ := ha
          have HQ4 := hide h4
          have rl := Lp els
          rw [← h4] at rl
          clear hje hS h4 HS HALL HRA
          obtain ⟨SP, capP, rfl, _⟩ := Lj HOP.out
          go_wp2_with (first | ((with_reducible refine lX ?_); refine mL ?_))
          go_loopw [17, 159] (fun s17 s159 wx => ∃ (j k : Nat), j ≤ els.length ∧ k ≤ q4.length ∧ s17 = .int .i64 k ∧ s159 = .int .i64 j ∧ Hid (q4.drop k = Ad (els.drop j)) ∧ qQ w wx ((gg, [.int .i64 q1, .int .i64 q2, .bool true], 51) :: (gq, [.slice (some ⟨gB, 0, none⟩) els.length capV, .int .i64 len], 42) :: (gS, [.int .i64 s0, .int .i64 s1, .int .i64 s2, .int .i64 s3, .int .i64 s4, .int .i64 s5, .int .i64 s6, .int .i64 s7], 30) :: (gP, [.string pa, .string pb, .slice S l.length cap, .int .i64 act], 24) :: (gB, cur, 49) :: Bp)) (fun _ i _ => els.length - (intOf i).toNat)
          case atStart => exact ⟨0, 0, Nat.zero_le _, Nat.zero_le _, rfl, rfl, hide (by rw [List.drop_zero, List.drop_zero]; exact HQ4.out), hM⟩
          case round =>
           clear hM
           obtain ⟨j, k, hj, hk, rfl, rfl, HD, hM⟩ := hrel
           by_cases hlt : j < els.length
           · obtain ⟨x, hx⟩ : ∃ x, els[j]? = some x := ⟨_, List.getElem?_eq_getElem hlt⟩
             have HC := hide (Qb HCU.out rfl hx)
             have HX := hide hx
             clear hx
             go_upto_region 35 with (first | ((with_reducible refine lX ?_); refine fj hM rfl rfl rfl (by ((repeat constructor) <;> fail)) HC.out ?_) | ((with_reducible refine lX ?_); refine mL ?_) | ((with_reducible refine sX ?_); refine mS ?_; clear hM; intro W hM) | ((with_reducible refine zX ?_); refine mB ?_; clear hM; intro g W hM))
             obtain ⟨gx, rfl⟩ : ∃ gx, gx = g := ⟨_, rfl⟩
             try simp only [pS, pN, sA, sB, sC]
             go_cut [181] (fun s wx => ∃ q : Bool, s = .bool q ∧ Hid ((q = true → Ad (els.drop j) = Ad (els.drop (j + 1))) ∧ (q = false → Ad (els.drop j) = x.n :: Ad (els.drop (j + 1)))) ∧ qQ w wx ((gx, [.bool x.c, .int .i64 x.ax, .int .i64 x.ay, .int .i64 x.bx, .int .i64 x.b_y, .int .i64 x.cx, .int .i64 x.cy, .int .i64 x.r, .int .i64 x.f, .int .i64 x.s, .int .i64 x.L, .int .i64 x.n, .bool x.g], 49) :: (gg, [.int .i64 q1, .int .i64 q2, .bool true], 51) :: (gq, [.slice (some ⟨gB, 0, none⟩) els.length capV, .int .i64 len], 42) :: (gS, [.int .i64 s0, .int .i64 s1, .int .i64 s2, .int .i64 s3, .int .i64 s4, .int .i64 s5, .int .i64 s6, .int .i64 s7], 30) :: (gP, [.string pa, .string pb, .slice S l.length cap, .int .i64 act], 24) :: (gB, cur, 49) :: Bp))
             case first =>
              have q0 := hM.cell (Lk.tail (Lk.tail Lk.head)) 0
              have c11 := hM.cell Lk.head 11
              have jw : IntKind.i64.wrap ((j : Int) + 1) = (j : Int) + 1 := IntWalk.i64_in _ (by omega)
              by_cases h1 : j + 1 < els.length
              · obtain ⟨z, hz⟩ : ∃ z, els[j + 1]? = some z := ⟨_, List.getElem?_eq_getElem h1⟩
                have k3 : (j : Int) + 1 < (els.length : Int) := by omega
                have k4 := decide_eq_true k3
                have k5 := decide_eq_true h1
                have r11 := (hM.cell (by ((repeat constructor) <;> fail) : Lk _ gB cur 49) ((j + 1) * 13 + 11)).trans (YJ HCU.out hz (i := 11) rfl)
                by_cases hn : z.n = x.n
                · have k6 : (z.n == x.n) = true := by simpa using hn
                  have HR := hide (show Ad (els.drop j) = Ad (els.drop (j + 1)) by rw [EI HX.out hz, if_pos hn])
                  clear hz hn
                  go_quiet (fail)
                  all_goals
                   go_wp2_with fail
                   all_goals
                    go_meet
                    exact ⟨_, rfl, hide ⟨fun _ => HR.out, fun h => by cases h⟩, by first | exact hM | exact zG hM | exact zK hM _⟩
                · have k6 : (z.n == x.n) = false := by simpa using hn
                  have HR := hide (show Ad (els.drop j) = x.n :: Ad (els.drop (j + 1)) by rw [EI HX.out hz, if_neg hn])
                  clear hz hn
                  go_quiet (fail)
                  all_goals
                   go_wp2_with fail
                   all_goals
                    go_meet
                    exact ⟨_, rfl, hide ⟨fun h => (by cases h), fun _ => HR.out⟩, by first | exact hM | exact zG hM | exact zK hM _⟩
              · have k3 : ¬ (j : Int) + 1 < (els.length : Int) := by omega
                have k4 := decide_eq_false k3
                have k5 := decide_eq_false h1
                have HR := hide (show Ad (els.drop j) = x.n :: Ad (els.drop (j + 1)) by
                 rw [Ee HX.out (List.getElem?_eq_none (by omega)), List.drop_eq_nil_of_le (by omega)]; rfl)
                go_quiet (fail)
                all_goals
                 go_wp2_with fail
                 all_goals
                  go_meet
                  exact ⟨_, rfl, hide ⟨fun h => (by cases h), fun _ => HR.out⟩, by first | exact hM | exact zG hM | exact zK hM _⟩
             case rest =>
             clear hM
             obtain ⟨q, rfl, HQ1, hM⟩ := hcut
             rcases q with _ | _
             rotate_left 1
             · have HD1 := hide (show q4.drop k = Ad (els.drop (j + 1)) by rw [HD.out, HQ1.out.1 rfl])
               clear HQ1
               go_wp2_with (first | ((with_reducible refine lX ?_); refine mL ?_))
               all_goals
                go_roundw
                case rel => exact ⟨j + 1, k, hlt, hk, rfl, by go_num, HD1, qz hM⟩
                case measure => simp [intOf]; omega
             have hd := HD.out
             rw [HQ1.out.2 rfl] at hd
             have hkl : k < q4.length := by
              rcases Nat.lt_or_ge k q4.length with h | h
              · exact h
              · rw [List.drop_eq_nil_of_le h] at hd; cases hd
             rw [List.drop_eq_getElem_cons hkl] at hd
             injection hd with hd1 hd2
             have hq4 : q4[k]? = some x.n := by rw [List.getElem?_eq_getElem hkl, hd1]
             have HD1 := hide hd2
             obtain ⟨gp, curp, rfl, rfl, hcp⟩ := Ll HOP.out (by omega)
             have up : curp[k]? = some (Value.int .i64 x.n) := by
              have h2 : (q4.map (Value.int .i64))[k]? = some (Value.int .i64 x.n) := by rw [List.getElem?_map, hq4]; rfl
              rw [← hcp, List.getElem?_take, if_pos (by omega)] at h2
              exact h2
             clear HQ1 HD hd1 hd2 hq4 hcp
             go_upto_region 36 with (first | ((with_reducible refine lX ?_); refine mL ?_))
             try simp only [pS, pN, sA, sB, sC]
             go_cut [194] (fun s wx => s = .bool false ∧ qQ w wx ((gx, [.bool x.c, .int .i64 x.ax, .int .i64 x.ay, .int .i64 x.bx, .int .i64 x.b_y, .int .i64 x.cx, .int .i64 x.cy, .int .i64 x.r, .int .i64 x.f, .int .i64 x.s, .int .i64 x.L, .int .i64 x.n, .bool x.g], 49) :: (gg, [.int .i64 q1, .int .i64 q2, .bool true], 51) :: (gq, [.slice (some ⟨gB, 0, none⟩) els.length capV, .int .i64 len], 42) :: (gS, [.int .i64 s0, .int .i64 s1, .int .i64 s2, .int .i64 s3, .int .i64 s4, .int .i64 s5, .int .i64 s6, .int .i64 s7], 30) :: (gP, [.string pa, .string pb, .slice S l.length cap, .int .i64 act], 24) :: (gB, cur, 49) :: [(gp, curp, 3)]))
             case first =>
              have c11 := hM.cell Lk.head 11
              have rk := (hM.cell (by ((repeat constructor) <;> fail) : Lk _ gp curp 3) k).trans up
              have k3 : ¬ (q4.length : Int) ≤ (k : Int) := by omega
              have k4 := decide_eq_false k3
              have k5 : ¬ q4.length ≤ k := by omega
              have k6 := decide_eq_false k5
              have k7 : (k : Int) < (q4.length : Int) := by omega
              go_quiet (fail)
              all_goals
               go_wp2_with fail
               all_goals
                go_meet
                exact ⟨by first | rfl | (simp; done), by first | exact hM | exact zG hM | exact zK hM _⟩
             case rest =>
             clear hM
             obtain ⟨rfl, hM⟩ := hcut
             go_wp2_with (first | ((with_reducible refine lX ?_); refine mL ?_))
             all_goals
              go_roundw
              case rel => exact ⟨j + 1, k + 1, hlt, hkl, by go_num, by go_num, HD1, qz hM⟩
              case measure => simp [intOf]; omega
           · have hke : k = q4.length := by
              have h := HD.out
              rw [List.drop_eq_nil_of_le (show els.length ≤ j by omega)] at h
              have := congrArg List.length h
              rw [List.length_drop] at this
              simp [Ad] at this
              omega
             have k3 : ((k : Int) == (q4.length : Int)) = true := by simp [hke]
             have k4 : (k == q4.length) = true := by simp [hke]
             clear hke
             go_wp2_with (first | ((with_reducible refine lX ?_); refine mL ?_))
             all_goals
              go_ret
              exact ⟨by first | rfl | simp, hM.below⟩
end Go.Proofs.YteanfgobpjdmnaaGreatDoor
/-
  TopSequence: the row's step: the given statement 'TopSequenceSaid' out of the walk.
-/
namespace Go.Proofs.YteanfgobpjdmnaaGreatDoor.topSequence
open Go.ChangeShapes Go.WideShapes Go.ChangeAt Go.RowKit
theorem own : ownKnob Tryz.prog.godebug = none := by kernel_rfl
theorem laidOut : laidOutB Tryz.prog = true := Qs
theorem typed : (Tryz.f3.params.toList.all fun t => Tryz.prog.readableRec t && decide (t < Tryz.prog.types.size)) = true := by kernel_rfl
theorem VN : ∀ t ∈ Tryz.f3.params.toList, Tryz.prog.readableRec t = true ∧ t < Tryz.prog.types.size := by
 intro t ht
 have h := List.all_eq_true.1 typed t ht
 simpa using h
theorem aV : Tryz.prog.cellTypes Tryz.prog.depth 24 = some [9, 9, 22, 3] := by kernel_rfl
theorem aW : Tryz.prog.cellsOf 24 = ([9, 9, 22, 3] : List TypeId).length := by kernel_rfl
theorem aX : Tryz.prog.cellTypes Tryz.prog.depth 30 = some (List.replicate 8 2) := by kernel_rfl
theorem aY : Tryz.prog.cellsOf 30 = (List.replicate 8 2).length := by kernel_rfl
theorem lifted (os : Os) (started : os.Started) (H : Type) (enc : TypeId × Value → H) :
 ReturnsInHanded {} Tryz.checked os 3 .any (fun w args => (Rows.topSequenceSpec.pre enc Tryz.prog Tryz.f3 Rows.topSequenceRow.domain false w args ∧ laidMetH Tryz.prog gh w) ∧ sizedMet enc Tryz.prog Tryz.f3 (OpenSpec.ofChange Rows.topSequenceSpec) false w args) (Rows.topSequenceSpec.post enc Tryz.prog Tryz.f3 false true false false) := by
 refine returnsInHanded_of_change_and (C := Tryz.checked) (X := fun w _ => laidMetH Tryz.prog gh w) (fun _ _ _ hh h => h.of_heap hh) own started (by kernel_rfl) Tryz.func3
  (ChangeSpec.witness_shaped (enc := enc) (C := Tryz.checked) (os := os) (X := fun w _ => laidMetH Tryz.prog gh w) false (World.doorLaid Tryz.prog 400 os) #[.agg #[.string ⟨#[]⟩, .string ⟨#[]⟩, .slice none 0 0, .int .i64 0], .agg #[.int .i64 0, .int .i64 0, .int .i64 0, .int .i64 0, .int .i64 0, .int .i64 0, .int .i64 0, .int .i64 0]] 8 rfl (World.shaped_of_RefB (by kernel_rfl) (by kernel_rfl)) (by kernel_rfl) (by kernel_rfl) (by kernel_rfl) (Vv os _)) ?_
 intro W base args ds gs before hval0 hW hcnd _ hL _
 have hval : ∀ (j : Nat) t v, Tryz.f3.params[j]? = some t → args[j]? = some v → Value.okWide Tryz.prog W .any base t v := hval0
 have hW' := hW
 obtain ⟨p, q, hA0, hV, rfl, hfz, hnd⟩ := hW
 have hlen := trodAll_length _ _ _ _ hA0
 rw [Tryz.params3] at hval hlen
 obtain ⟨v0, v1, rfl⟩ := My hlen.1
 obtain ⟨d0, d1, rfl⟩ := mN hlen.2
 obtain ⟨lp, rfl, ep, hlp⟩ := Bj (Or.inl ⟨_, Tryz.underlying24⟩) aV aW (hval 0 24 v0 rfl rfl)
 obtain ⟨pc0, pc1, pc2, pc3, rfl⟩ := sP (ep.trans (by rfl))
 have hA' := hA0
 rw [Tryz.params3] at hA'
 obtain ⟨_, _, hTp, _⟩ := hA'
 obtain ⟨pA, pB, pS, pl, pcap, pact, hpv, hpA, hpB, hpn, hpact, hpp, hpx⟩ := BK hTp ⟨pc0, pc1, pc2, pc3, rfl⟩
 obtain ⟨rfl, rfl, rfl, rfl⟩ : pc0 = .string pA ∧ pc1 = .string pB ∧ pc2 = .slice pS pl.length pcap ∧ pc3 = .int .i64 pact := by simpa using hpv
 obtain ⟨ls, rfl, es, hls⟩ := Bl (Or.inl ⟨_, Tryz.underlying30⟩) aX aY (fun u hu => by rw [List.eq_of_mem_replicate hu]; exact Tryz.underlying2) (hval 1 30 v1 rfl rfl)
 obtain ⟨s0, s1, s2, s3, s4, s5, s6, s7, rfl⟩ := sR (es.trans (by simp))
 have hs0 : qH s0 := hls _ (by simp)
 have hs1 : qH s1 := hls _ (by simp)
 have hs2 : qH s2 := hls _ (by simp)
 have hs3 : qH s3 := hls _ (by simp)
 have hs4 : qH s4 := hls _ (by simp)
 have hs5 : qH s5 := hls _ (by simp)
 have hs6 : qH s6 := hls _ (by simp)
 have hs7 : qH s7 := hls _ (by simp)
 refine (Lo pA pB pS pl pcap pact s0 s1 s2 s3 s4 s5 s6 s7 hpA hpB hpact hpn (hide hpp) (hide hpx) hs0 hs1 hs2 hs3 hs4 hs5 hs6 hs7 hL W).mono fun e W' ⟨he, hb⟩ => ?_
 subst he
 exact ⟨_, rfl, Vi (f := Tryz.f3) (s := Rows.topSequenceSpec) (tb := 4) laidOut VN rfl (by kernel_rfl) Tryz.underlying4 hW' ⟨rfl, rfl, rfl⟩ hb⟩
theorem k0 : (Rows.topSequenceRow.wf (OpenSpec.ofChange Rows.topSequenceSpec)) = true := by kernel_rfl
theorem k3 : (Tryz.f3.params.all (Tryz.prog.readableRec ·)) = true := by kernel_rfl
theorem k4 : (namedTie Tryz.prog Rows.topSequenceRow.named Rows.topSequenceSpec.vars) = true := by kernel_rfl
theorem k5 : (Rows.topSequenceRow.stops == []) = true := by kernel_rfl
theorem k7 : (Rows.topSequenceRow.knobs == []) = true := by kernel_rfl
theorem k9 : (Rows.topSequenceRow.inPlace == Tryz.prog.inPlace 3) = true := by kernel_rfl
theorem k10 : (Rows.topSequenceRow.unfollowed == Tryz.prog.unfollowed 3) = true := by kernel_rfl
theorem k11 : (Rows.topSequenceRow.recurses == Tryz.prog.recurses 3) = true := by kernel_rfl
theorem k12 : (Rows.topSequenceRow.named == Tryz.prog.varsNamed 3) = true := by kernel_rfl
theorem k13 : (Rows.topSequenceRow.maps == (Tryz.f3.params.toList ++ Rows.topSequenceSpec.plain.varTypes Tryz.prog).any (Tryz.prog.mapsRec ·)) = true := by kernel_rfl
theorem k14 : (Rows.topSequenceRow.ifaces == (Tryz.f3.params.toList ++ Rows.topSequenceSpec.plain.varTypes Tryz.prog).any (Tryz.prog.ifacesRec ·)) = true := by kernel_rfl
theorem k15 : (Rows.topSequenceRow.mapsOut == Tryz.prog.mapsAmong Tryz.f3.resultTypes.toList) = true := by kernel_rfl
theorem k16 : (Rows.topSequenceRow.loops == (Tryz.f3.params.toList ++ Rows.topSequenceSpec.plain.varTypes Tryz.prog).any (Tryz.prog.loopsFrom ·)) = true := by kernel_rfl
theorem k17 : (Rows.topSequenceRow.wideKeys == (Tryz.f3.params.toList ++ Rows.topSequenceSpec.plain.varTypes Tryz.prog ++ Tryz.f3.resultTypes.toList).any (Tryz.prog.wideKeysFrom ·)) = true := by kernel_rfl
theorem k18 : (Rows.topSequenceSpec.vars.all (Tryz.prog.varReadable ·)) = true := by kernel_rfl
theorem k19 : (Tryz.f3.resultTypes.all (fun t => Tryz.prog.readableRec t && decide (t < Tryz.prog.types.size))) = true := by kernel_rfl
theorem k20 : (Rows.topSequenceRow.ifacesOut == Tryz.f3.resultTypes.toList.any (Tryz.prog.ifacesRec ·)) = true := by kernel_rfl
theorem k21 : (Rows.topSequenceRow.loopsOut == Tryz.f3.resultTypes.toList.any (Tryz.prog.loopsFrom ·)) = true := by kernel_rfl
theorem k22 : (Rows.topSequenceRow.plainKeys == Tryz.prog.plainKeys) = true := by kernel_rfl
theorem k23 : (Rows.topSequenceRow.shortTexts.isNone) = true := by kernel_rfl
theorem k26 : (Rows.topSequenceRow.lifted == Tryz.prog.liftsFinal) = true := by rw [Vp]; rfl
theorem k27 : (Tryz.prog.make == some Rows.topSequenceRow.make) = true := by rw [Bn]; rfl
theorem k28 : (Rows.topSequenceRow.kinds == (if Rows.topSequenceRow.domain.isEmpty then [] else Tryz.f3.params.toList.map fun t => match Tryz.prog.underlying t with | some (.int k) => some k | _ => none)) = true := by kernel_rfl
theorem Cw : (Rows.topSequenceRow.pinned == Rows.topSequenceRow.pinnedBy) = true := by kernel_rfl
theorem Cz : (Rows.topSequenceRow.veiled == (Tryz.f3.params.toList ++ Rows.topSequenceSpec.plain.varTypes Tryz.prog ++ Tryz.f3.resultTypes.toList).any (Tryz.prog.veiledRec ·)) = true := by kernel_rfl
theorem CD : (Rows.topSequenceRow.veiledFits Tryz.prog Tryz.f3.params.toList (Tryz.f3.params.toList ++ Rows.topSequenceSpec.plain.varTypes Tryz.prog ++ Tryz.f3.resultTypes.toList)) = true := by kernel_rfl
theorem closed : joinedFacts Tryz.prog 3 Tryz.f3 Rows.topSequenceSpec Rows.topSequenceRow = true := (zy (zy (zy (zy (zy (zy (zy (zy (zy (zy (zy (zy (zy (zy (zy (zy (zy (zy (zy (zy (zy (zy (zy (zy (zy (zy (zy (zy (zy (zy (zy k0 Qs) Bm) k3) k4) k5) Vj) k7) Vl) k9) k10) k11) k12) k13) k14) k15) k16) k17) k18) k19) k20) k21) k22) k23) Vm) Vo) k26) k27) k28) Cw) Cz) CD)
theorem byName : Tryz.prog.funcNamed Rows.topSequenceRow.func = some 3 := by kernel_rfl
theorem inst : Tryz.f3.isInstance Tryz.prog Rows.topSequenceRow.origin Rows.topSequenceRow.targs := of_decide_eq_true (by kernel_rfl)
theorem over : Rows.topSequenceRow.holds Tryz.pinned (OpenSpec.ofChange Rows.topSequenceSpec) :=
 OpenClaim.holds_of_wide 3 Tryz.f3 rfl rfl rfl rfl rfl rfl rfl ⟨rfl, rfl, rfl, rfl, rfl⟩ rfl rfl rfl rfl rfl byName Tryz.func3 closed
  inst (by unfold Func.isWrapper; rw [if_neg (of_decide_eq_false (by kernel_rfl))]; exact ⟨rfl, rfl⟩)
  (fun os started H enc _ => lifted os started H enc)
theorem proved : Rows.TopSequenceCardSaid :=
 Claim7.holds_tied_plain_at .later [] [.data] true Rows.topSequenceCard.stood.harness false
  over (fun _ h => by cases h) (by kernel_rfl) (fun _ h => by cases h) topSequence_row_tie rfl ⟨rfl, rfl⟩ (by kernel_rfl) rfl
  (fun f fn hf hfn => by
    obtain rfl : f = 3 := Option.some.inj ((show Tryz.prog.funcNamed "flightdeck/flightdecktop.TopSequence" = some 3 by kernel_rfl).symm.trans hf) |>.symm
    obtain rfl : fn = Tryz.f3 := (Option.some.inj (Tryz.func3.symm.trans hfn)).symm
    exact ⟨by kernel_rfl, fun j t ht => by
     have hm : t ∈ Tryz.f3.params.toList := by simpa using Array.mem_of_getElem? ht
     have hall : (Tryz.f3.params.toList.all fun u => !Tryz.prog.wantsStandIn u) = true := by kernel_rfl
     exact (show Tryz.prog.wantsStandIn t = false by simpa using List.all_eq_true.1 hall t hm)⟩)
  (by kernel_rfl)
end Go.Proofs.YteanfgobpjdmnaaGreatDoor.topSequence
