/-
  The walk of the law: the straight elements of a plan of tracks to fixes lie on the legs.
-/
import Derived.Test.YtdlognnifmihnaaGreatDoorMNode
import Derived.Test.YtdlognnifmihnaaGreatDoorMPlanIn
import Derived.Test.YtdlognnifmihnaaGreatDoorMTurnL
import Derived.Test.YtdlognnifmihnaaGreatDoorCards
import Derived.Test.YtdlognnifmihnaaGreatDoorTie
set_option maxRecDepth 100000
set_option maxHeartbeats 16000000
namespace Go.Proofs.YtdlognnifmihnaaGreatDoor
open Go.RowKit
set_option linter.unusedVariables false
set_option linter.unusedSimpArgs false
theorem ZU {w W0 W' : World} {L B : List zz} (h : qQ w W0 L) (k : qQ W0 W' B) : qQ w W' (L ++ B) := by
 have h1 := qp h k.below
 refine ⟨h1.below, fun g cs t hm => ?_, ?_⟩
 · rcases List.mem_append.1 hm with hm | hm
   · exact h1.rows g cs t hm
   · have := k.rows g cs t hm
     exact ⟨Nat.le_trans h.below.size this.1, this.2⟩
 · rw [List.map_append, List.nodup_append]
   refine ⟨h.nodup, k.nodup, fun a ha b hb he => ?_⟩
   obtain ⟨⟨x1, x2, x3⟩, hx, e1⟩ := List.mem_map.1 ha
   obtain ⟨⟨y1, y2, y3⟩, hy, e2⟩ := List.mem_map.1 hb
   have q1 := h.lt hx
   have q2 := (k.rows y1 y2 y3 hy).1
   simp only at e1 e2
   omega
section
variable {l : List Oper} {Q : Exit → Act → World → Prop} {a : Act} {w W : World} {L K : List zz} {o : Oper} {fuel : Nat} {listed : Array Bool}
theorem RQ (i : Nat) {C : List Value} {g off : Nat} {ty : TypeId} {x : Operand} (hM : qQ w W L) (hC : ∀ (j : Nat) (v : Value), C[j]? = some v → w.cell? ⟨g, off + j, none⟩ = some v)
 (h : wpAnyH Tryz.prog .any l.toArray Q (Held w K) fuel (listed.setIfInBounds i true) (a.put o.dst (.agg C.toArray)) W) (hk : Ks K L := by ((repeat constructor) <;> fail)) (hn : gV l i o := by exact jL rfl)
 (hs : Region.noSelect l.toArray = true := by kernel_rfl) (hf : Region.free .any l.toArray listed i = true := by kernel_rfl) (hr : (Region.ready .any l.toArray listed).contains i = true := by kernel_rfl) (hgd : o.guard = none := by rfl)
 (ho : o.op = .load ty x := by rfl) (hx : a.eval x = .pointer (some ⟨g, off, none⟩) := by rfl) (hg : Qa.contains ty = true := by rfl) (hz : List.lookup ty (JG ++ fa) = some C.length := by rfl)
 (hQ : ∀ c a w v, Q (.panic c) (a.put o.dst v) w → Q (.panic c) a w := by exact fun _ _ _ _ h => h) : wpAnyH Tryz.prog .any l.toArray Q (Held w K) (fuel + 1) listed a W :=
  wpAnyH_take hn.get hs hf hr (fun c a w => hQ c a w _) (.inl ⟨by simp [Region.wanted, hgd], fun W1 hS => by
   unfold execOp
   simp only [ho, hx, Instr.loadAt, Instr.sureAddr, Sem.run_bind, Sem.run_pure, Result.andThen_ok, jk ty g off C.length C (BC hg) (vK W1 (Qu hz)) rfl (fun j v hj => hS.old (hC j v hj))]⟩) (zV hM hk.mem) h
end
theorem RN {w : World} {b off : Nat} {x : En} (h : uy w b off x) : ∀ (j : Nat) (v : Value), [Value.int .i64 x.ex, .int .i64 x.ey][j]? = some v → w.cell? ⟨b, off + 14 + j, none⟩ = some v := fun j v hj => by
 rw [Nat.add_assoc]
 have hlt : j < 2 := (List.getElem?_eq_some_iff.1 hj).1
 refine h (14 + j) v ?_
 rcases j with _ | _ | j
 · exact hj
 · exact hj
 · omega
theorem RK {W : World} (pa pb : ByteArray) (S : Option Addr) (l : List En) (cap : Nat) (act : Int) (s0 s1 s2 s3 s4 s5 s6 s7 : Int) (ha : pa.size ≤ maxLen) (hb : pb.size ≤ maxLen) (hact : qH act) (hn : l.length ≤ 9223372036854775807) (hp : Hid (xk W S l)) (hxs : Hid (∀ (k : Nat) (x : En), l[k]? = some x → pK x)) (hs0 : qH s0) (hs1 : qH s1) (hs2 : qH s2) (hs3 : qH s3) (hs4 : qH s4) (hs5 : qH s5) (hs6 : qH s6) (hs7 : qH s7) (hL : laidMetH Tryz.prog gh W) (w : World) (hw : w = W := by rfl) :
 Calls Tryz.prog 5 #[.agg #[.string pa, .string pb, .slice S l.length cap, .int .i64 act], .agg #[.int .i64 s0, .int .i64 s1, .int .i64 s2, .int .i64 s3, .int .i64 s4, .int .i64 s5, .int .i64 s6, .int .i64 s7]] w fun e w' => e = .returned (.bool true) ∧ Below w.heap.size w w' := by
 subst hw
 have hu := hide (Bs hL)
 clear hL
 have BA := fun W h1 h2 => Qp pa pb S l cap (-1) s0 s1 s2 s4 s5 s6 s7 W ha hb h1 hxs hs2 hs6 h2
 obtain ⟨Q, hQ⟩ : ∃ Q, ji l s0 s1 (bC s4 s5) (qO pa pb l (-1) s0 s1 s2 s4 s5 s6 s7) = Q := ⟨_, rfl⟩
 rw [hQ] at BA
 have HQ := hide hQ
 obtain ⟨els, idx, er⟩ := Q
 have hM := qB w
 go_enter Tryz.func5, Tryz.ntmps5
 go_upto_region 0 with fail
 go_cut [2, 3] (fun t2 t3 wx => ∃ gP gS, t2 = .pointer (some ⟨gP, 0, none⟩) ∧ t3 = .pointer (some ⟨gS, 0, none⟩) ∧ qQ w wx [(gS, [.int .i64 s0, .int .i64 s1, .int .i64 s2, .int .i64 s3, .int .i64 s4, .int .i64 s5, .int .i64 s6, .int .i64 s7], 30), (gP, [.string pa, .string pb, .slice S l.length cap, .int .i64 act], 24)])
 case first =>
  go_wp2_with (first | ((with_reducible refine lX ?_); refine mL ?_) | ((with_reducible refine sX ?_); refine mS ?_; clear hM; intro W hM) | ((with_reducible refine bX ?_); refine mB ?_; clear hM; intro g W hM) | ((with_reducible refine zX ?_); refine mB ?_; clear hM; intro g W hM))
  all_goals
   go_meet
   exact ⟨_, _, rfl, rfl, hM⟩
 case rest =>
 clear hM
 obtain ⟨gP, gS, rfl, rfl, hM⟩ := hcut
 go_wp2_with (first | (go_at_call 11; (with_reducible refine cb hM (bU _ (hide (qD hM hu.out))) ?_); clear hM; intro W1 hM) | ((with_reducible refine lX ?_); refine mL ?_) | ((with_reducible refine sX ?_); refine mS ?_; clear hM; intro W hM) | ((with_reducible refine zX ?_); refine mB ?_; clear hM; intro g W hM))
 go_loopw [25] (fun s25 wx => ∃ i : Nat, i ≤ l.length ∧ Hid (∀ (k : Nat) (x : En), k < i → l[k]? = some x → x.gap = false ∧ x.ov = false ∧ if k = 0 then x.ty = 1 else x.ty = 2) ∧ s25 = .int .i64 i ∧ qQ w wx ((gS, [.int .i64 s0, .int .i64 s1, .int .i64 s2, .int .i64 s3, .int .i64 s4, .int .i64 s5, .int .i64 s6, .int .i64 s7], 30) :: (gP, [.string pa, .string pb, .slice S l.length cap, .int .i64 act], 24) :: [])) (fun i _ => l.length - (intOf i).toNat)
 case atStart => exact ⟨0, Nat.zero_le _, hide (fun k x h => by omega), rfl, hM⟩
 case round =>
  clear hM
  obtain ⟨i, hi, HI, rfl, hM⟩ := hrel
  by_cases hlt : i < l.length
  · obtain ⟨x, hx⟩ : ∃ x, l[i]? = some x := ⟨_, List.getElem?_eq_getElem hlt⟩
    obtain ⟨b, o, rfl, hat⟩ := hp.out i x hx
    have HAT := hide hat
    have HX := hide hx
    clear hat hx
    go_upto_region 6 with (first | ((with_reducible refine lX ?_); refine uT hM rfl (by first | exact rfl | (go_simp; done)) rfl (BC rfl) HAT.out (Qu rfl) ?_) | ((with_reducible refine lX ?_); refine mL ?_) | ((with_reducible refine sX ?_); refine mS ?_; clear hM; intro W hM) | ((with_reducible refine zX ?_); refine mB ?_; clear hM; intro g W hM))
    obtain ⟨gx, rfl⟩ : ∃ gx, gx = g := ⟨_, rfl⟩
    try simp only [pS, pN, sA, sB, sC]
    go_cut [56] (fun s wx => ∃ (q : Bool) (cs : List Value), s = .bool q ∧ Hid (q = false → x.gap = false ∧ x.ov = false ∧ if i = 0 then x.ty = 1 else x.ty = 2) ∧ qQ w wx ((gx, cs, 52) :: (gS, [.int .i64 s0, .int .i64 s1, .int .i64 s2, .int .i64 s3, .int .i64 s4, .int .i64 s5, .int .i64 s6, .int .i64 s7], 30) :: (gP, [.string pa, .string pb, .slice (some ⟨b, o, none⟩) l.length cap, .int .i64 act], 24) :: []))
    case first =>
     rcases hg : x.gap with _ | _
     · rw [hg] at hM
       rcases ho : x.ov with _ | _
       · rw [ho] at hM
         by_cases h0 : i = 0
         · have k0 : ((i : Int) == 0) = true := by simp [h0]
           have k1 : ¬ (0 : Int) < (i : Int) := by omega
           have k2 : decide ((0 : Int) < (i : Int)) = false := decide_eq_false k1
           by_cases ht : x.ty = 1
           · rw [ht] at hM
             have HR := hide (show x.gap = false ∧ x.ov = false ∧ if i = 0 then x.ty = 1 else x.ty = 2 from ⟨hg, ho, by rw [if_pos h0]; exact ht⟩)
             clear hg ho ht h0
             go_wp2_with (first | ((with_reducible refine lX ?_); refine mL ?_))
             all_goals
              go_meet
              exact ⟨_, _, rfl, hide (fun _ => HR.out), hM⟩
           · have k3 : (x.ty != 1) = true := by simpa using ht
             clear hg ho ht h0
             go_wp2_with (first | ((with_reducible refine lX ?_); refine mL ?_))
             all_goals
              go_meet
              exact ⟨_, _, rfl, hide (fun h => by cases h), hM⟩
         · have k0 : ((i : Int) == 0) = false := by simp [h0]
           have k1 : (0 : Int) < (i : Int) := by omega
           have k2 : decide ((0 : Int) < (i : Int)) = true := decide_eq_true k1
           by_cases ht : x.ty = 2
           · rw [ht] at hM
             have HR := hide (show x.gap = false ∧ x.ov = false ∧ if i = 0 then x.ty = 1 else x.ty = 2 from ⟨hg, ho, by rw [if_neg h0]; exact ht⟩)
             clear hg ho ht h0
             go_wp2_with (first | ((with_reducible refine lX ?_); refine mL ?_))
             all_goals
              go_meet
              exact ⟨_, _, rfl, hide (fun _ => HR.out), hM⟩
           · have k3 : (x.ty != 2) = true := by simpa using ht
             clear hg ho ht h0
             go_wp2_with (first | ((with_reducible refine lX ?_); refine mL ?_))
             all_goals
              go_meet
              exact ⟨_, _, rfl, hide (fun h => by cases h), hM⟩
       · rw [ho] at hM
         clear hg ho
         go_wp2_with (first | ((with_reducible refine lX ?_); refine mL ?_))
         all_goals
          go_meet
          exact ⟨_, _, rfl, hide (fun h => by cases h), hM⟩
     · rw [hg] at hM
       clear hg
       go_wp2_with (first | ((with_reducible refine lX ?_); refine mL ?_))
       all_goals
        go_meet
        exact ⟨_, _, rfl, hide (fun h => by cases h), hM⟩
    case rest =>
    clear hM
    obtain ⟨q, cs, rfl, HQ1, hM⟩ := hcut
    rcases q with _ | _
    · have HI1 := hide (show ∀ (k : Nat) (y : En), k < i + 1 → l[k]? = some y → y.gap = false ∧ y.ov = false ∧ if k = 0 then y.ty = 1 else y.ty = 2 from fun k y hk hy => by
       by_cases hki : k < i
       · exact HI.out k y hki hy
       · obtain rfl : k = i := by omega
         rw [HX.out] at hy
         injection hy with hy
         rw [← hy]
         exact HQ1.out rfl)
      clear HQ1
      go_wp2_with (first | ((with_reducible refine lX ?_); refine mL ?_))
      all_goals
       go_roundw
       case rel => exact ⟨i + 1, hlt, HI1, by go_num, qz hM⟩
       case measure => simp [intOf]; omega
    · clear HQ1
      go_wp2_with (first | ((with_reducible refine lX ?_); refine mL ?_))
      all_goals
       go_ret
       exact ⟨rfl, hM.below⟩
  · have HTF := hide (fun (k : Nat) (x : En) (hx : l[k]? = some x) => HI.out k x (by have := (List.getElem?_eq_some_iff.1 hx).1; omega) hx)
    clear HI
    by_cases he : er = 0
    rotate_left 1
    · have hne : (er != 0) = true := by simpa using he
      clear he hQ HQ
      go_wp2_with (first | (go_at_call 7; (with_reducible refine (BA _ (hide (jR hM hp.out)) (hide (qD hM hu.out))).mono ?_); rintro e W1 ⟨V, len, B, rfl, hO, hlen, hB⟩; replace hM := ZU hM hB; clear hB; simp only [List.cons_append, List.nil_append] at hM; obtain ⟨SV, capV, hVV⟩ := ut hO.1; subst hVV; have HO := hide hO; clear hO; have HLEN := hide hlen; clear hlen) | ((with_reducible refine lX ?_); refine mL ?_) | ((with_reducible refine sX ?_); refine mS ?_; clear hM; intro W hM) | ((with_reducible refine zX ?_); refine mB ?_; clear hM; intro g W hM))
      all_goals
       go_ret
       exact ⟨rfl, hM.below⟩
    subst he
    have HT1 := SF (pa := pa) (pb := pb) (fx := s0) (fy := s1) (c := s2) (spd := s4) (bank := s5) (oalt := s6) (gr := s7) (R := bC s4 s5) HTF.out (by rw [hQ])
    obtain ⟨d, hd, hBu⟩ := xK (l := l) (fx := s0) (fy := s1) (R := bC s4 s5) (pa := pa) (pb := pb) (act := -1) (c := s2) (spd := s4) (bank := s5) (oalt := s6) (gr := s7) (by rw [hQ])
    have HT0 : (qO pa pb l (-1) s0 s1 s2 s4 s5 s6 s7).2.2 = 0 := by
     by_cases h1 : (qO pa pb l (-1) s0 s1 s2 s4 s5 s6 s7).2.2 = 0
     · exact h1
     · unfold ji at hQ
       rw [if_pos h1] at hQ
       exact absurd (congrArg (fun q => q.2.2) hQ) h1
    have HL60 := hide (bY (ku HT0).1).2
    rw [hQ] at hd HT1
    dsimp only at hd HT1
    subst hd
    obtain ⟨els, hels⟩ : ∃ els, d.els = els := ⟨_, rfl⟩
    have HNU := hide (show ∀ x ∈ els, rS l (-1) x.n by rw [← hels]; exact hBu.num)
    have HT := hide (show ∀ x ∈ els, Aa (Sq l) x by rw [← hels]; exact HT1)
    have HL5 : els.length ≤ 500 := by rw [← hels]; have := hBu.len; omega
    rw [hels] at BA
    clear hels hBu hQ HQ HT1 HT0
    go_upto_region 11 with (first | (go_at_call 7; (with_reducible refine (BA _ (hide (jR hM hp.out)) (hide (qD hM hu.out))).mono ?_); rintro e W1 ⟨V, len, B, rfl, hO, hlen, hB⟩; replace hM := ZU hM hB; clear hB; simp only [List.cons_append, List.nil_append] at hM; obtain ⟨SV, capV, hVV⟩ := ut hO.1; subst hVV; have HO := hide hO; clear hO; have HLEN := hide hlen; clear hlen) | ((with_reducible refine lX ?_); refine mL ?_) | ((with_reducible refine sX ?_); refine mS ?_; clear hM; intro W hM) | ((with_reducible refine zX ?_); refine mB ?_; clear hM; intro g W hM))
    obtain ⟨gq, rfl⟩ : ∃ gq, gq = g := ⟨_, rfl⟩
    go_wp2_with (first | ((with_reducible refine lX ?_); refine mL ?_))
    go_loopw [76] (fun s76 wx => ∃ j : Nat, j ≤ els.length ∧ s76 = .int .i64 j ∧ qQ w wx ((gq, [.slice SV els.length capV, .int .i64 len], 34) :: (gS, [.int .i64 s0, .int .i64 s1, .int .i64 s2, .int .i64 s3, .int .i64 s4, .int .i64 s5, .int .i64 s6, .int .i64 s7], 30) :: (gP, [.string pa, .string pb, .slice S l.length cap, .int .i64 (-1)], 24) :: B)) (fun i _ => els.length - (intOf i).toNat)
    case atStart => exact ⟨0, Nat.zero_le _, rfl, hM⟩
    case round =>
     clear hM
     obtain ⟨j, hj, rfl, hM⟩ := hrel
     by_cases hlt : j < els.length
     · obtain ⟨x, hx⟩ : ∃ x, els[j]? = some x := ⟨_, List.getElem?_eq_getElem hlt⟩
       obtain ⟨jxn, ex, hxn, -, hlx, -⟩ := HNU.out x (List.mem_of_getElem? hx)
       have hjxn : jxn < l.length := (List.getElem?_eq_some_iff.1 hlx).1
       have hl60 := HL60.out
       obtain ⟨b, o, rfl, hat⟩ := hp.out jxn ex hlx
       obtain ⟨gB, capB, cur, eq1, rfl, hcur⟩ := uY HO.out (by omega)
       simp only [Value.slice.injEq, true_and] at eq1
       obtain ⟨rfl, rfl⟩ := eq1
       have HC := hide (Qb hcur rfl hx)
       have HE := hide (HT.out x (List.mem_of_getElem? hx))
       have HXN := hide hxn
       have HLX := hide hlx
       have HAT := hide hat
       clear hcur hx hxn hat hlx
       go_upto_region 16 with (first | ((with_reducible refine lX ?_); refine fj hM rfl rfl rfl (by ((repeat constructor) <;> fail)) HC.out ?_) | ((with_reducible refine lX ?_); refine mL ?_) | ((with_reducible refine sX ?_); refine mS ?_; clear hM; intro W hM) | ((with_reducible refine zX ?_); refine mB ?_; clear hM; intro g W hM))
       obtain ⟨gx, rfl⟩ : ∃ gx, gx = g := ⟨_, rfl⟩
       rw [HXN.out] at hM
       try simp only [pS, pN, sA, sB, sC]
       rcases hc : x.c with _ | _
       rotate_left 1
       · rw [hc] at hM
         clear hc
         go_wp2_with (first | ((with_reducible refine lX ?_); refine mL ?_))
         all_goals
          go_roundw
          case rel => exact ⟨j + 1, hlt, by go_num, qz (hM)⟩
          case measure => simp [intOf]; omega
       rw [hc] at hM
       have n2 : ¬ ((l.length : Nat) : Int) ≤ (jxn : Int) := by omega
       have n3 := decide_eq_false n2
       by_cases h1 : jxn = 0
       · have k1 : (jxn : Int) < 1 := by omega
         have k2 := decide_eq_true k1
         clear hc h1 HE
         go_wp2_with (first | ((with_reducible refine lX ?_); refine mL ?_))
         all_goals
          go_roundw
          case rel => exact ⟨j + 1, hlt, by go_num, qz (hM)⟩
          case measure => simp [intOf]; omega
       have k1 : ¬ (jxn : Int) < 1 := by omega
       have k2 := decide_eq_false k1
       obtain ⟨m, rfl⟩ : ∃ m, jxn = m + 1 := ⟨jxn - 1, by omega⟩
       obtain ⟨e0, he0⟩ : ∃ e, l[m]? = some e := ⟨_, List.getElem?_eq_getElem (by omega)⟩
       obtain ⟨b', o', e2, hat0⟩ := hp.out m e0 he0
       simp only [Option.some.injEq, Addr.mk.injEq, and_true] at e2
       obtain ⟨rfl, rfl⟩ := e2
       have hpt := HE.out hc (by rw [HXN.out]; omega)
       have P0 : Sq l (x.n - 1) = (e0.ex, e0.ey) := by
        unfold Sq
        rw [show (x.n - 1).toNat = m by rw [HXN.out]; omega, he0]
        rfl
       have P1 : Sq l x.n = (ex.ex, ex.ey) := by
        unfold Sq
        rw [show x.n.toNat = m + 1 by rw [HXN.out]; omega, HLX.out]
        rfl
       unfold Sb at hpt
       rw [P0, P1] at hpt
       have c0 := RN hat0
       have c1 := RN HAT.out
       obtain ⟨p1, RI⟩ : ∃ p, e0.ex = p := ⟨_, rfl⟩
       obtain ⟨p2, hp2⟩ : ∃ p, e0.ey = p := ⟨_, rfl⟩
       obtain ⟨q1, hq1⟩ : ∃ p, ex.ex = p := ⟨_, rfl⟩
       obtain ⟨q2, hq2⟩ : ∃ p, ex.ey = p := ⟨_, rfl⟩
       rw [RI, hp2] at c0
       rw [hq1, hq2] at c1
       rw [RI, hp2, hq1, hq2] at hpt
       dsimp only at hpt
       have HE0 := hide c0
       have HE1 := hide c1
       have HPT := hide hpt
       have iw : IntKind.i64.wrap ((m : Int) + 1 - 1) = m := by rw [show (m : Int) + 1 - 1 = m by omega]; exact IntWalk.i64_in _ (by omega)
       have iw2 := IntWalk.i64_in (m : Int) (by omega)
       clear c0 c1 hpt RI hp2 hq1 hq2 P0 P1 hat0 he0 HE hc h1 HLX HAT
       go_upto_region 17 with (first | ((with_reducible refine lX ?_); refine mL ?_))
       try simp only [pS, pN, sA, sB, sC]
       go_cut [12, 13] (fun s12 s13 wx => ∃ ga gb, s12 = .pointer (some ⟨ga, 0, none⟩) ∧ s13 = .pointer (some ⟨gb, 0, none⟩) ∧ qQ w wx ((gb, [.int .i64 q1, .int .i64 q2], 26) :: (ga, [.int .i64 p1, .int .i64 p2], 26) :: (gx, [.bool false, .int .i64 x.ax, .int .i64 x.ay, .int .i64 x.bx, .int .i64 x.b_y, .int .i64 x.cx, .int .i64 x.cy, .int .i64 x.r, .int .i64 x.f, .int .i64 x.s, .int .i64 x.L, .int .i64 (m + 1 : Nat), .bool x.g], 41) :: (gq, [.slice (some ⟨gB, 0, none⟩) els.length capV, .int .i64 len], 34) :: (gS, [.int .i64 s0, .int .i64 s1, .int .i64 s2, .int .i64 s3, .int .i64 s4, .int .i64 s5, .int .i64 s6, .int .i64 s7], 30) :: (gP, [.string pa, .string pb, .slice (some ⟨b, o, none⟩) l.length cap, .int .i64 (-1)], 24) :: [(gB, cur, 41)]))
       case first =>
        refine qW [(gx, [.bool false, .int .i64 x.ax, .int .i64 x.ay, .int .i64 x.bx, .int .i64 x.b_y, .int .i64 x.cx, .int .i64 x.cy, .int .i64 x.r, .int .i64 x.f, .int .i64 x.s, .int .i64 x.L, .int .i64 (m + 1 : Nat), .bool x.g], 41), (gP, [.string pa, .string pb, .slice (some ⟨b, o, none⟩) l.length cap, .int .i64 (-1)], 24)] hM (by kernel_rfl) ?_; (clear hM; intro W hM)
        refine rD 0 ?_
        refine rD 1 ?_
        refine rD 2 ?_
        refine rD 3 ?_
        refine dP 4 (v := .int .i64 m) hM ?_ (hv := by (intro W0; go_simp; first | done | exact iw | exact iw2 | (simp [iw2]; done) | omega))
        try simp only [pS, pN, sA, sB, sC]
        refine dP 5 (v := .pointer (some ⟨b, o + m * 20, none⟩)) hM ?_ (hv := by (intro W0; go_simp; first | done | omega | (intro h; exact absurd h (by omega))))
        try simp only [pS, pN, sA, sB, sC]
        refine rD 6 ?_
        refine RQ 7 hM (HE0.out) ?_
        try simp only [pS, pN, sA, sB, sC]
        refine rD 8 ?_
        refine rD 9 ?_
        refine rD 10 ?_
        refine rD 11 ?_
        refine dP 12 (v := .pointer (some ⟨b, o + (m + 1) * 20, none⟩)) hM ?_ (hv := by (intro W0; go_simp; first | done | omega | (intro h; exact absurd h (by omega))))
        try simp only [pS, pN, sA, sB, sC]
        refine rD 13 ?_
        refine RQ 14 hM (HE1.out) ?_
        try simp only [pS, pN, sA, sB, sC]
        refine dT 15 16 (fun K' hK' => ?_) (fun K' hK' => ?_)
        ·
         refine oN hM ?_
         clear hM; intro g12 W hM
         refine rK hK' hM ?_; clear hK' K'
         refine dC 16 (fun K' hK' => ?_)
         refine oN hM ?_
         clear hM; intro g13 W hM
         refine rK hK' hM ?_; clear hK' K'
         refine dC 17 (fun K' hK' => ?_)
         refine oS hM ?_
         clear hM; intro W hM
         refine rK hK' hM ?_; clear hK' K'
         refine dC 18 (fun K' hK' => ?_)
         refine oS hM ?_
         clear hM; intro W hM
         refine rK hK' hM ?_; clear hK' K'
         refine qE (by kernel_rfl) ?_
         go_wp2_with fail
         all_goals
          go_meet
          first | exact ⟨_, _, rfl, rfl, hM⟩ | exact ⟨_, _, rfl, rfl, jt hM (List.Perm.swap _ _ _)⟩
        ·
         refine oN hM ?_
         clear hM; intro g13 W hM
         refine rK hK' hM ?_; clear hK' K'
         refine dC 15 (fun K' hK' => ?_)
         refine oN hM ?_
         clear hM; intro g12 W hM
         refine rK hK' hM ?_; clear hK' K'
         refine dC 17 (fun K' hK' => ?_)
         refine oS hM ?_
         clear hM; intro W hM
         refine rK hK' hM ?_; clear hK' K'
         refine dC 18 (fun K' hK' => ?_)
         refine oS hM ?_
         clear hM; intro W hM
         refine rK hK' hM ?_; clear hK' K'
         refine qE (by kernel_rfl) ?_
         go_wp2_with fail
         all_goals
          go_meet
          first | exact ⟨_, _, rfl, rfl, hM⟩ | exact ⟨_, _, rfl, rfl, jt hM (List.Perm.swap _ _ _)⟩
       case rest =>
       clear hM
       obtain ⟨ga, gb, rfl, rfl, hM⟩ := hcut
       have DA := fun W => jJ x.ax x.ay x.bx x.b_y W
       obtain ⟨D, hD⟩ : ∃ D, qJ x.ax x.ay x.bx x.b_y = D := ⟨_, rfl⟩
       rw [hD] at DA
       have HPT2 := hide (hD ▸ HPT.out)
       clear hD HPT
       go_upto_region 18 with (first | ((with_reducible refine lX ?_); refine mL ?_))
       go_cut [120] (fun s wx => ∃ q : Bool, s = .bool q ∧ Hid (q = false → ¬ D < 20 ∧ ¬ (p1 = q1 ∧ p2 = q2)) ∧ qQ w wx ((gb, [.int .i64 q1, .int .i64 q2], 26) :: (ga, [.int .i64 p1, .int .i64 p2], 26) :: (gx, [.bool false, .int .i64 x.ax, .int .i64 x.ay, .int .i64 x.bx, .int .i64 x.b_y, .int .i64 x.cx, .int .i64 x.cy, .int .i64 x.r, .int .i64 x.f, .int .i64 x.s, .int .i64 x.L, .int .i64 (m + 1 : Nat), .bool x.g], 41) :: (gq, [.slice (some ⟨gB, 0, none⟩) els.length capV, .int .i64 len], 34) :: (gS, [.int .i64 s0, .int .i64 s1, .int .i64 s2, .int .i64 s3, .int .i64 s4, .int .i64 s5, .int .i64 s6, .int .i64 s7], 30) :: (gP, [.string pa, .string pb, .slice (some ⟨b, o, none⟩) l.length cap, .int .i64 (-1)], 24) :: [(gB, cur, 41)]))
       case first =>
        by_cases hD : D < 20
        · have d1 := decide_eq_true hD
          go_wp2_with (first | (go_at_call 13; (with_reducible refine cb hM (DA _) ?_); clear hM; intro W1 hM) | ((with_reducible refine lX ?_); refine mL ?_))
          all_goals
           go_meet
           exact ⟨_, rfl, hide (fun h => by cases h), hM⟩
        · have d1 := decide_eq_false hD
          by_cases hpq : p1 = q1
          · subst hpq
            by_cases hpr : p2 = q2
            · subst hpr
              go_wp2_with (first | (go_at_call 13; (with_reducible refine cb hM (DA _) ?_); clear hM; intro W1 hM) | ((with_reducible refine lX ?_); refine mL ?_))
              all_goals
               go_meet
               exact ⟨_, rfl, hide (fun h => by simp at h), hM⟩
            · have d2 : (p2 == q2) = false := by simpa using hpr
              have HN := hide hpr
              clear hpr
              go_wp2_with (first | (go_at_call 13; (with_reducible refine cb hM (DA _) ?_); clear hM; intro W1 hM) | ((with_reducible refine lX ?_); refine mL ?_))
              all_goals
               go_meet
               exact ⟨_, rfl, hide (fun _ => ⟨hD, fun h => HN.out h.2⟩), hM⟩
          · have d2 : (p1 == q1) = false := by simpa using hpq
            have HN := hide hpq
            clear hpq
            go_wp2_with (first | (go_at_call 13; (with_reducible refine cb hM (DA _) ?_); clear hM; intro W1 hM) | ((with_reducible refine lX ?_); refine mL ?_))
            all_goals
             go_meet
             exact ⟨_, rfl, hide (fun _ => ⟨hD, fun h => HN.out h.1⟩), hM⟩
       case rest =>
       clear hM
       obtain ⟨q, rfl, HQ1, hM⟩ := hcut
       rcases q with _ | _
       rotate_left 1
       · clear HQ1
         go_wp2_with (first | ((with_reducible refine lX ?_); refine mL ?_))
         all_goals
          go_roundw
          case rel => exact ⟨j + 1, hlt, by go_num, qz (qz (qz (hM)))⟩
          case measure => simp [intOf]; omega
       have hn := HQ1.out rfl
       obtain ⟨g1, g2⟩ := HPT2.out.resolve_left hn.1
       obtain ⟨o1, al1, f1, a1, a2⟩ := g1 hn.2
       obtain ⟨o2, al2, f2, a3, a4⟩ := g2 hn.2
       have CA := fun W => ZO p1 p2 q1 q2 x.ax x.ay W (o1, al1, 0) f1.symm
       have CB := fun W => ZO p1 p2 q1 q2 x.bx x.b_y W (o2, al2, 0) f2.symm
       dsimp only at CA CB
       have m1 : ¬ (3 : Int) < o1 := by omega
       have m2 : ¬ o1 < -3 := by omega
       have m3 : ¬ (3 : Int) < o2 := by omega
       have m4 : ¬ o2 < -3 := by omega
       have v1 := decide_eq_false m1
       have v2 := decide_eq_false m2
       have v3 := decide_eq_false m3
       have v4 := decide_eq_false m4
       clear g1 g2 f1 f2 hn HQ1 HPT2
       go_upto_region 20 with (first | (go_at_call 14; (with_reducible refine cb hM (CA _) ?_); clear hM; intro W1 hM) | ((with_reducible refine lX ?_); refine mL ?_))
       go_upto_region 21 with (first | (go_at_call 14; (with_reducible refine cb hM (CB _) ?_); clear hM; intro W1 hM) | ((with_reducible refine lX ?_); refine mL ?_))
       go_wp2_with (first | ((with_reducible refine lX ?_); refine mL ?_))
       all_goals
        go_roundw
        case rel => exact ⟨j + 1, hlt, by go_num, qz (qz (qz (hM)))⟩
        case measure => simp [intOf]; omega
     · go_wp2_with (first | ((with_reducible refine lX ?_); refine mL ?_))
       all_goals
        go_ret
        exact ⟨rfl, hM.below⟩
end Go.Proofs.YtdlognnifmihnaaGreatDoor
/-
  PathTurns: the row's step: the given statement 'PathTurnsSaid' out of the walk.
-/
namespace Go.Proofs.YtdlognnifmihnaaGreatDoor.pathTurns
open Go.ChangeShapes Go.WideShapes Go.ChangeAt Go.RowKit
theorem own : ownKnob Tryz.prog.godebug = none := by kernel_rfl
theorem laidOut : laidOutB Tryz.prog = true := Qs
theorem typed : (Tryz.f5.params.toList.all fun t => Tryz.prog.readableRec t && decide (t < Tryz.prog.types.size)) = true := by kernel_rfl
theorem VN : ∀ t ∈ Tryz.f5.params.toList, Tryz.prog.readableRec t = true ∧ t < Tryz.prog.types.size := by
 intro t ht
 have h := List.all_eq_true.1 typed t ht
 simpa using h
theorem aV : Tryz.prog.cellTypes Tryz.prog.depth 24 = some [9, 9, 22, 3] := by kernel_rfl
theorem aW : Tryz.prog.cellsOf 24 = ([9, 9, 22, 3] : List TypeId).length := by kernel_rfl
theorem aX : Tryz.prog.cellTypes Tryz.prog.depth 30 = some (List.replicate 8 2) := by kernel_rfl
theorem aY : Tryz.prog.cellsOf 30 = (List.replicate 8 2).length := by kernel_rfl
theorem lifted (os : Os) (started : os.Started) (H : Type) (enc : TypeId × Value → H) :
 ReturnsInHanded {} Tryz.checked os 5 .any (fun w args => (Rows.pathTurnsSpec.pre enc Tryz.prog Tryz.f5 Rows.pathTurnsRow.domain false w args ∧ laidMetH Tryz.prog gh w) ∧ sizedMet enc Tryz.prog Tryz.f5 (OpenSpec.ofChange Rows.pathTurnsSpec) false w args) (Rows.pathTurnsSpec.post enc Tryz.prog Tryz.f5 false true false false) := by
 refine returnsInHanded_of_change_and (C := Tryz.checked) (X := fun w _ => laidMetH Tryz.prog gh w) (fun _ _ _ hh h => h.of_heap hh) own started (by kernel_rfl) Tryz.func5
  (ChangeSpec.witness_shaped (enc := enc) (C := Tryz.checked) (os := os) (X := fun w _ => laidMetH Tryz.prog gh w) false (World.doorLaid Tryz.prog 400 os) #[.agg #[.string ⟨#[]⟩, .string ⟨#[]⟩, .slice none 0 0, .int .i64 0], .agg #[.int .i64 0, .int .i64 0, .int .i64 0, .int .i64 0, .int .i64 0, .int .i64 0, .int .i64 0, .int .i64 0]] 8 rfl (World.shaped_of_RefB (by kernel_rfl) (by kernel_rfl)) (by kernel_rfl) (by kernel_rfl) (by kernel_rfl) (Vv os _)) ?_
 intro W base args ds gs before hval0 hW hcnd _ hL _
 have hval : ∀ (j : Nat) t v, Tryz.f5.params[j]? = some t → args[j]? = some v → Value.okWide Tryz.prog W .any base t v := hval0
 have hW' := hW
 obtain ⟨p, q, hA0, hV, rfl, hfz, hnd⟩ := hW
 have hlen := trodAll_length _ _ _ _ hA0
 rw [Tryz.params5] at hval hlen
 obtain ⟨v0, v1, rfl⟩ := My hlen.1
 obtain ⟨d0, d1, rfl⟩ := mN hlen.2
 obtain ⟨lp, rfl, ep, hlp⟩ := Bj (Or.inl ⟨_, Tryz.underlying24⟩) aV aW (hval 0 24 v0 rfl rfl)
 obtain ⟨pc0, pc1, pc2, pc3, rfl⟩ := sP (ep.trans (by rfl))
 have hA' := hA0
 rw [Tryz.params5] at hA'
 obtain ⟨_, _, hTp, _⟩ := hA'
 obtain ⟨pA, pB, pS, pl, pcap, pact, hpv, hpA, hpB, hpn, hpact, hpp, hpx⟩ := BK hTp ⟨pc0, pc1, pc2, pc3, rfl⟩
 obtain ⟨rfl, rfl, rfl, rfl⟩ : pc0 = .string pA ∧ pc1 = .string pB ∧ pc2 = .slice pS pl.length pcap ∧ pc3 = .int .i64 pact := by simpa using hpv
 obtain ⟨ls, rfl, es, hls⟩ := Bl (Or.inl ⟨_, Tryz.underlying30⟩) aX aY (fun u hu => by rw [List.eq_of_mem_replicate hu]; exact Tryz.underlying2) (hval 1 30 v1 rfl rfl)
 obtain ⟨s0, s1, s2, s3, s4, s5, s6, s7, rfl⟩ := sR (es.trans (by simp))
 have hs0 : qH s0 := hls _ (by simp)
 have hs1 : qH s1 := hls _ (by simp)
 have hs2 : qH s2 := hls _ (by simp)
 have hs3 : qH s3 := hls _ (by simp)
 have hs4 : qH s4 := hls _ (by simp)
 have hs5 : qH s5 := hls _ (by simp)
 have hs6 : qH s6 := hls _ (by simp)
 have hs7 : qH s7 := hls _ (by simp)
 refine (RK pA pB pS pl pcap pact s0 s1 s2 s3 s4 s5 s6 s7 hpA hpB hpact hpn (hide hpp) (hide hpx) hs0 hs1 hs2 hs3 hs4 hs5 hs6 hs7 hL W).mono fun e W' ⟨he, hb⟩ => ?_
 subst he
 exact ⟨_, rfl, Vi (f := Tryz.f5) (s := Rows.pathTurnsSpec) (tb := 4) laidOut VN rfl (by kernel_rfl) Tryz.underlying4 hW' ⟨rfl, rfl, rfl⟩ hb⟩
theorem k0 : (Rows.pathTurnsRow.wf (OpenSpec.ofChange Rows.pathTurnsSpec)) = true := by kernel_rfl
theorem k3 : (Tryz.f5.params.all (Tryz.prog.readableRec ·)) = true := by kernel_rfl
theorem k4 : (namedTie Tryz.prog Rows.pathTurnsRow.named Rows.pathTurnsSpec.vars) = true := by kernel_rfl
theorem k5 : (Rows.pathTurnsRow.stops == []) = true := by kernel_rfl
theorem k7 : (Rows.pathTurnsRow.knobs == []) = true := by kernel_rfl
theorem k9 : (Rows.pathTurnsRow.inPlace == Tryz.prog.inPlace 5) = true := by kernel_rfl
theorem k10 : (Rows.pathTurnsRow.unfollowed == Tryz.prog.unfollowed 5) = true := by kernel_rfl
theorem k11 : (Rows.pathTurnsRow.recurses == Tryz.prog.recurses 5) = true := by kernel_rfl
theorem k12 : (Rows.pathTurnsRow.named == Tryz.prog.varsNamed 5) = true := by kernel_rfl
theorem k13 : (Rows.pathTurnsRow.maps == (Tryz.f5.params.toList ++ Rows.pathTurnsSpec.plain.varTypes Tryz.prog).any (Tryz.prog.mapsRec ·)) = true := by kernel_rfl
theorem k14 : (Rows.pathTurnsRow.ifaces == (Tryz.f5.params.toList ++ Rows.pathTurnsSpec.plain.varTypes Tryz.prog).any (Tryz.prog.ifacesRec ·)) = true := by kernel_rfl
theorem k15 : (Rows.pathTurnsRow.mapsOut == Tryz.prog.mapsAmong Tryz.f5.resultTypes.toList) = true := by kernel_rfl
theorem k16 : (Rows.pathTurnsRow.loops == (Tryz.f5.params.toList ++ Rows.pathTurnsSpec.plain.varTypes Tryz.prog).any (Tryz.prog.loopsFrom ·)) = true := by kernel_rfl
theorem k17 : (Rows.pathTurnsRow.wideKeys == (Tryz.f5.params.toList ++ Rows.pathTurnsSpec.plain.varTypes Tryz.prog ++ Tryz.f5.resultTypes.toList).any (Tryz.prog.wideKeysFrom ·)) = true := by kernel_rfl
theorem k18 : (Rows.pathTurnsSpec.vars.all (Tryz.prog.varReadable ·)) = true := by kernel_rfl
theorem k19 : (Tryz.f5.resultTypes.all (fun t => Tryz.prog.readableRec t && decide (t < Tryz.prog.types.size))) = true := by kernel_rfl
theorem k20 : (Rows.pathTurnsRow.ifacesOut == Tryz.f5.resultTypes.toList.any (Tryz.prog.ifacesRec ·)) = true := by kernel_rfl
theorem k21 : (Rows.pathTurnsRow.loopsOut == Tryz.f5.resultTypes.toList.any (Tryz.prog.loopsFrom ·)) = true := by kernel_rfl
theorem k22 : (Rows.pathTurnsRow.plainKeys == Tryz.prog.plainKeys) = true := by kernel_rfl
theorem k23 : (Rows.pathTurnsRow.shortTexts.isNone) = true := by kernel_rfl
theorem k26 : (Rows.pathTurnsRow.lifted == Tryz.prog.liftsFinal) = true := by rw [Vp]; rfl
theorem k27 : (Tryz.prog.make == some Rows.pathTurnsRow.make) = true := by rw [Bn]; rfl
theorem k28 : (Rows.pathTurnsRow.kinds == (if Rows.pathTurnsRow.domain.isEmpty then [] else Tryz.f5.params.toList.map fun t => match Tryz.prog.underlying t with | some (.int k) => some k | _ => none)) = true := by kernel_rfl
theorem Cw : (Rows.pathTurnsRow.pinned == Rows.pathTurnsRow.pinnedBy) = true := by kernel_rfl
theorem Cz : (Rows.pathTurnsRow.veiled == (Tryz.f5.params.toList ++ Rows.pathTurnsSpec.plain.varTypes Tryz.prog ++ Tryz.f5.resultTypes.toList).any (Tryz.prog.veiledRec ·)) = true := by kernel_rfl
theorem CD : (Rows.pathTurnsRow.veiledFits Tryz.prog Tryz.f5.params.toList (Tryz.f5.params.toList ++ Rows.pathTurnsSpec.plain.varTypes Tryz.prog ++ Tryz.f5.resultTypes.toList)) = true := by kernel_rfl
theorem closed : joinedFacts Tryz.prog 5 Tryz.f5 Rows.pathTurnsSpec Rows.pathTurnsRow = true := (zy (zy (zy (zy (zy (zy (zy (zy (zy (zy (zy (zy (zy (zy (zy (zy (zy (zy (zy (zy (zy (zy (zy (zy (zy (zy (zy (zy (zy (zy (zy k0 Qs) Bm) k3) k4) k5) Vj) k7) Vl) k9) k10) k11) k12) k13) k14) k15) k16) k17) k18) k19) k20) k21) k22) k23) Vm) Vo) k26) k27) k28) Cw) Cz) CD)
theorem byName : Tryz.prog.funcNamed Rows.pathTurnsRow.func = some 5 := by kernel_rfl
theorem inst : Tryz.f5.isInstance Tryz.prog Rows.pathTurnsRow.origin Rows.pathTurnsRow.targs := of_decide_eq_true (by kernel_rfl)
theorem over : Rows.pathTurnsRow.holds Tryz.pinned (OpenSpec.ofChange Rows.pathTurnsSpec) :=
 OpenClaim.holds_of_wide 5 Tryz.f5 rfl rfl rfl rfl rfl rfl rfl ⟨rfl, rfl, rfl, rfl, rfl⟩ rfl rfl rfl rfl rfl byName Tryz.func5 closed
  inst (by unfold Func.isWrapper; rw [if_neg (of_decide_eq_false (by kernel_rfl))]; exact ⟨rfl, rfl⟩)
  (fun os started H enc _ => lifted os started H enc)
theorem proved : Rows.PathTurnsCardSaid :=
 Claim7.holds_tied_plain_at .later [] [.data] true Rows.pathTurnsCard.stood.harness false
  over (fun _ h => by cases h) (by kernel_rfl) (fun _ h => by cases h) pathTurns_row_tie rfl ⟨rfl, rfl⟩ (by kernel_rfl) rfl
  (fun f fn hf hfn => by
    obtain rfl : f = 5 := Option.some.inj ((show Tryz.prog.funcNamed "flightdeck/flightdecklaw27.PathTurns" = some 5 by kernel_rfl).symm.trans hf) |>.symm
    obtain rfl : fn = Tryz.f5 := (Option.some.inj (Tryz.func5.symm.trans hfn)).symm
    exact ⟨by kernel_rfl, fun j t ht => by
     have hm : t ∈ Tryz.f5.params.toList := by simpa using Array.mem_of_getElem? ht
     have hall : (Tryz.f5.params.toList.all fun u => !Tryz.prog.wantsStandIn u) = true := by kernel_rfl
     exact (show Tryz.prog.wantsStandIn t = false by simpa using List.all_eq_true.1 hall t hm)⟩)
  (by kernel_rfl)
end Go.Proofs.YtdlognnifmihnaaGreatDoor.pathTurns
