/-
  plan.Check for all plans.
-/
import Derived.Test.YteanfgobpjdmnaaGreatDoorMPlan1
namespace Go.Proofs.YteanfgobpjdmnaaGreatDoor
open Go.RowKit
set_option linter.unusedVariables false
set_option linter.unusedSimpArgs false
def uy (w : World) (b off : Nat) (x : En) : Prop := ∀ (j : Nat) (v : Value), x.cells[j]? = some v → w.cell? ⟨b, off + j, none⟩ = some v
def xk (w : World) (S : Option Addr) (l : List En) : Prop := ∀ (k : Nat) (x : En), l[k]? = some x → ∃ b o, S = some ⟨b, o, none⟩ ∧ uy w b (o + k * 20) x
theorem fC {w W : World} {L : List zz} (hM : qQ w W L) {b off : Nat} {x : En} (h : uy w b off x) : uy W b off x := fun j v hj => hM.old (h j v hj)
theorem jR {w W : World} {L : List zz} (hM : qQ w W L) {S : Option Addr} {l : List En} (h : xk w S l) : xk W S l := fun k x hx => by
 obtain ⟨b, o, e, h2⟩ := h k x hx
 exact ⟨b, o, e, fC hM h2⟩
theorem jU {w W : World} {e : zz} {L : List zz} (h : qQ w W (e :: L)) : qQ w W L :=
 ⟨h.below, fun g cs t hm => h.rows g cs t (.tail _ hm), by have := h.nodup; rw [List.map_cons, List.nodup_cons] at this; exact this.2⟩
theorem QD {w : World} {b off : Nat} {x : En} (h : uy w b off x) : w.cell? ⟨b, off, none⟩ = some (.bool x.gap) := h 0 _ rfl
theorem BJ {w : World} {b off : Nat} {x : En} (h : uy w b off x) : ∀ (j : Nat) (v : Value), x.leg[j]? = some v → w.cell? ⟨b, off + 1 + j, none⟩ = some v := fun j v hj => by
 have := h (1 + j) v (by
  have hj13 : j < 13 := by
   have := (List.getElem?_eq_some_iff.1 hj).1
   simpa [En.leg] using this
  have e : x.cells = .bool x.gap :: (x.leg ++ [.int .i64 x.ex, .int .i64 x.ey, .int .i64 x.mx, .int .i64 x.my, .int .u8 x.sec, .string x.via]) := rfl
  rw [e, Nat.add_comm 1 j, List.getElem?_cons_succ, List.getElem?_append_left (by simpa [En.leg] using hj13)]
  exact hj)
 rw [Nat.add_assoc]
 exact this
section
variable {P : Program} {ops : Array Oper} {Q : Exit → Act → World → Prop} {a : Act} {w W : World} {L : List zz} {rest : List Oper} {o : Oper}
theorem uT {ty : TypeId} {x : Operand} {g off : Nat} (hM : qQ w W L) (ho : o.op = .load ty x) (hw : Region.wanted o (yielded ops a.tmps) = true) (hx : a.eval x = .pointer (some ⟨g, off, none⟩)) (hg : ∀ w, (isAgg ty).run P w = .ok true w)
 {C : List Value} (hC : ∀ (j : Nat) (v : Value), C[j]? = some v → w.cell? ⟨g, off + j, none⟩ = some v) (hz : ∀ w, (sizeOf ty).run P w = .ok C.length w)
 (h : wpList P ops Q rest (a.put o.dst (.agg C.toArray)) W) : wpList P ops Q (o :: rest) a W :=
 wpList_step fun _ hK => by
  rw [if_pos hw]
  unfold Oper.wp execOp
  simp only [ho, hx, Instr.loadAt, Instr.sureAddr, Sem.run_bind, Sem.run_pure, Result.andThen_ok, jk ty g off C.length C hg (vK w hz) rfl (fun j v hj => hM.old (hC j v hj))]
  exact hK _ _ h
theorem QE {ty : TypeId} {x : Operand} {g off : Nat} (hM : qQ w W L) (ho : o.op = .load ty x) (hw : Region.wanted o (yielded ops a.tmps) = true) (hx : a.eval x = .pointer (some ⟨g, off, none⟩)) (hg : ∀ w, (isAgg ty).run P w = .ok false w)
 {v : Value} (hc : w.cell? ⟨g, off, none⟩ = some v) (h : wpList P ops Q rest (a.put o.dst v) W) : wpList P ops Q (o :: rest) a W :=
 wpList_step fun _ hK => by
  rw [if_pos hw]
  unfold Oper.wp execOp
  simp only [ho, hx, Instr.loadAt, Instr.sureAddr, Sem.run_bind, Sem.run_pure, Result.andThen_ok, loadVar, hg]
  have hl : (load ⟨g, off, none⟩).run P W = .ok v W := by simp [hM.old hc]
  simp [hl]
  exact hK _ _ h
end
theorem uz {pa pb : ByteArray} {l : List En} {act : Int} {k : Nat} {x : En} {la E1 L1 : Int} (HF3 : Hid (jN pa pb l act = if yN none 0 l ≠ 0 then yN none 0 l else if act ≠ -1 ∧ (act < 0 ∨ act ≥ l.length ∨ Jd l act = true) then 2 else 0))
 (HG : Hid (yN none 0 l = yN (vz l k) la (l.drop k))) (hx : Hid (l[k]? = some x)) (hs : yG (vz l k) x (decide (k + 1 = l.length)) la = (E1, L1)) (hne : E1 ≠ 0) : jN pa pb l act = E1 := by
 have h := HG.out.trans (Tf hx.out la)
 rw [hs, if_pos hne] at h
 rw [HF3.out, h, if_pos hne]
theorem JL {l : List En} {k : Nat} {x : En} {la L1 : Int} (HG : Hid (yN none 0 l = yN (vz l k) la (l.drop k))) (hx : Hid (l[k]? = some x)) (hs : yG (vz l k) x (decide (k + 1 = l.length)) la = (0, L1)) : yN none 0 l = yN (vz l (k + 1)) L1 (l.drop (k + 1)) := by
 have h := HG.out.trans (Tf hx.out la)
 rw [hs, if_neg (by simp)] at h
 exact h
section
variable {pv : Option En} {x y : En} {lo : Bool} {la : Int}
theorem fD (h : x.gap = true) (h2 : zZ x = false) : yG pv x lo la = (1, la) := by unfold yG; rw [if_pos h, if_pos h2]
theorem Pn (h : x.gap = true) (h2 : zZ x = true) (h3 : (lo || Te pv) = true) : yG pv x lo la = (9, la) := by unfold yG; rw [if_pos h, if_neg (by rw [h2]; simp), if_pos h3]
theorem Po (h : x.gap = true) (h2 : zZ x = true) (h3 : (lo || Te pv) = false) : yG pv x lo la = (0, la) := by unfold yG; rw [if_pos h, if_neg (by rw [h2]; simp), if_neg (by rw [h3]; simp)]
theorem eT (h : x.gap = false) (h2 : vW x ≠ 0) : yG pv x lo la = (vW x, la) := by unfold yG; rw [if_neg (by rw [h]; simp), if_pos h2]
theorem eX (h : x.gap = false) (h2 : vW x = 0) (h3 : Te pv = true) : yG pv x lo la = if bd x.ty = false then (9, la) else if x.sec < la then (9, la) else (0, x.sec) := by
 unfold yG
 rw [if_neg (by rw [h]; simp), if_neg (by rw [h2]; simp)]
 cases pv with
 | none => rfl
 | some y => exact if_pos h3
theorem Pp (h : x.gap = false) (h2 : vW x = 0) (h3 : y.gap = false) : yG (some y) x lo la = if VW y x = false then (9, la) else if (x.ty = 2 ∨ x.ty = 4) ∧ tJ y x = true then (7, la) else if x.sec < la then (9, la) else (0, x.sec) := by
 unfold yG
 rw [if_neg (by rw [h]; simp), if_neg (by rw [h2]; simp)]
 exact if_neg (by rw [h3]; simp)
end
set_option maxRecDepth 100000 in
set_option maxHeartbeats 8000000 in
theorem JM (pa pb : ByteArray) (S : Option Addr) (l : List En) (cap : Nat) (act : Int) (w : World) (ha : pa.size ≤ maxLen) (hb : pb.size ≤ maxLen) (hp : Hid (xk w S l)) (hxs : Hid (∀ (k : Nat) (x : En), l[k]? = some x → pK x)) (hu : Hid (jq w)) :
 Calls Tryz.prog 22 #[.agg #[.string pa, .string pb, .slice S l.length cap, .int .i64 act]] w fun e w' => e = .returned (.int .i64 (jN pa pb l act)) ∧ Below w.heap.size w w' := by
 have HF : Hid (jN pa pb l act = if (xm pa && xm pb) = false then 5 else if (l.length : Int) > 60 then 3 else if yN none 0 l ≠ 0 then yN none 0 l else if act ≠ -1 ∧ (act < 0 ∨ act ≥ l.length ∨ Jd l act = true) then 2 else 0) := hide rfl
 have PA := fun W => Uu pa ha W
 have PB := fun W => Uu pb hb W
 rcases h1 : xm pa with _ | _
 · have HR : Hid (jN pa pb l act = 5) := hide (by rw [HF.out, h1, if_pos (by rfl)])
   rw [h1] at PA
   clear h1 HF
   have hM := qB w
   go_enter Tryz.func22, Tryz.ntmps22
   go_wp2_with (first | (go_at_call 49; (with_reducible refine (PA _).mono ?_); rintro e W1 ⟨rfl, hq⟩; replace hM := js hM hq; clear hq) | (go_at_call 49; (with_reducible refine (PB _).mono ?_); rintro e W1 ⟨rfl, hq⟩; replace hM := js hM hq; clear hq) | ((with_reducible refine lX ?_); refine mL ?_) | ((with_reducible refine sX ?_); refine mS ?_; clear hM; intro W hM) | ((with_reducible refine bX ?_); refine mB ?_; clear hM; intro g W hM) | ((with_reducible refine zX ?_); refine mB ?_; clear hM; intro g W hM))
   all_goals
    go_ret
    exact ⟨qL HR.out.symm, hM.below⟩
 rcases h2 : xm pb with _ | _
 · have HR : Hid (jN pa pb l act = 5) := hide (by rw [HF.out, h1, h2, if_pos (by rfl)])
   rw [h1] at PA
   rw [h2] at PB
   clear h1 h2 HF
   have hM := qB w
   go_enter Tryz.func22, Tryz.ntmps22
   go_wp2_with (first | (go_at_call 49; (with_reducible refine (PA _).mono ?_); rintro e W1 ⟨rfl, hq⟩; replace hM := js hM hq; clear hq) | (go_at_call 49; (with_reducible refine (PB _).mono ?_); rintro e W1 ⟨rfl, hq⟩; replace hM := js hM hq; clear hq) | ((with_reducible refine lX ?_); refine mL ?_) | ((with_reducible refine sX ?_); refine mS ?_; clear hM; intro W hM) | ((with_reducible refine bX ?_); refine mB ?_; clear hM; intro g W hM) | ((with_reducible refine zX ?_); refine mB ?_; clear hM; intro g W hM))
   all_goals
    go_ret
    exact ⟨qL HR.out.symm, hM.below⟩
 have HF2 : Hid (jN pa pb l act = if (l.length : Int) > 60 then 3 else if yN none 0 l ≠ 0 then yN none 0 l else if act ≠ -1 ∧ (act < 0 ∨ act ≥ l.length ∨ Jd l act = true) then 2 else 0) := hide (by rw [HF.out, h1, h2, if_neg (by simp)])
 rw [h1] at PA
 rw [h2] at PB
 clear h1 h2 HF
 by_cases h60 : (l.length : Int) > 60
 · have HR : Hid (jN pa pb l act = 3) := hide (by rw [HF2.out, if_pos h60])
   clear HF2
   have hM := qB w
   go_enter Tryz.func22, Tryz.ntmps22
   go_wp2_with (first | (go_at_call 49; (with_reducible refine (PA _).mono ?_); rintro e W1 ⟨rfl, hq⟩; replace hM := js hM hq; clear hq) | (go_at_call 49; (with_reducible refine (PB _).mono ?_); rintro e W1 ⟨rfl, hq⟩; replace hM := js hM hq; clear hq) | ((with_reducible refine lX ?_); refine mL ?_) | ((with_reducible refine sX ?_); refine mS ?_; clear hM; intro W hM) | ((with_reducible refine bX ?_); refine mB ?_; clear hM; intro g W hM) | ((with_reducible refine zX ?_); refine mB ?_; clear hM; intro g W hM))
   all_goals
    go_ret
    exact ⟨qL HR.out.symm, hM.below⟩
 have HF3 : Hid (jN pa pb l act = if yN none 0 l ≠ 0 then yN none 0 l else if act ≠ -1 ∧ (act < 0 ∨ act ≥ l.length ∨ Jd l act = true) then 2 else 0) := hide (by rw [HF2.out, if_neg h60])
 clear HF2
 have l60 : l.length ≤ 60 := by omega
 clear h60
 have hM := qB w
 go_enter Tryz.func22, Tryz.ntmps22
 go_wp2_with (first | (go_at_call 49; (with_reducible refine (PA _).mono ?_); rintro e W1 ⟨rfl, hq⟩; replace hM := js hM hq; clear hq) | (go_at_call 49; (with_reducible refine (PB _).mono ?_); rintro e W1 ⟨rfl, hq⟩; replace hM := js hM hq; clear hq) | ((with_reducible refine lX ?_); refine mL ?_) | ((with_reducible refine sX ?_); refine mS ?_; clear hM; intro W hM) | ((with_reducible refine bX ?_); refine mB ?_; clear hM; intro g W hM) | ((with_reducible refine zX ?_); refine mB ?_; clear hM; intro g W hM))
 obtain ⟨gp, rfl⟩ : ∃ gp, gp = g := ⟨_, rfl⟩
 go_loopw [3, 25] (fun a i W => ∃ (k : Nat) (la : Int), k ≤ l.length ∧ a = .int .u8 la ∧ i = .int .i64 (k : Int) ∧ Hid (yN none 0 l = yN (vz l k) la (l.drop k)) ∧ qQ w W [(gp, [.string pa, .string pb, .slice S l.length cap, .int .i64 act], 24)]) (fun a i _ => l.length - (intOf i).toNat)
 case atStart => exact ⟨0, 0, by omega, rfl, rfl, hide rfl, hM⟩
 case round =>
  clear hM
  obtain ⟨k, la, hk, rfl, rfl, HG, hM⟩ := hrel
  by_cases hlt : k < l.length
  · (
    obtain ⟨x, hx⟩ : ∃ x, l[k]? = some x := ⟨_, List.getElem?_eq_getElem hlt⟩
    obtain ⟨b, o, rfl, hat⟩ := hp.out k x hx
    have hxw := hxs.out k x hx
    have AL := fun W hW => fB x hxw W hW
    have HX := hide hx
    clear hx
    have hpre : Hid (k = 0 ∧ vz l k = none) ∨ ∃ (j : Nat) (y : En), k = j + 1 ∧ Hid (vz l k = some y) ∧ uy w b (o + j * 20) y := by
     rcases Nat.eq_zero_or_pos k with h0 | h0
     · exact .inl (hide ⟨h0, by unfold vz; rw [if_pos h0]⟩)
     · obtain ⟨j, rfl⟩ : ∃ j, k = j + 1 := ⟨k - 1, by omega⟩
       obtain ⟨y, hy⟩ : ∃ y, l[j]? = some y := ⟨_, List.getElem?_eq_getElem (by omega)⟩
       obtain ⟨b2, o2, e, h2⟩ := hp.out j y hy
       injection e with e
       injection e with e1 e2
       subst e1 e2
       exact .inr ⟨j, y, rfl, hide (by unfold vz; rw [if_neg (by omega), Nat.add_sub_cancel]; exact hy), h2⟩
    have HP := hide hpre
    clear hpre
    go_upto_region 9 with (first | ((with_reducible refine jK ?_); refine uT hM rfl (by first | exact rfl | (go_simp; done)) rfl (BC rfl) hat (Qu rfl) ?_) | ((with_reducible refine lX ?_); refine mL ?_) | ((with_reducible refine sX ?_); refine mS ?_; clear hM; intro W hM) | ((with_reducible refine bX ?_); refine mB ?_; clear hM; intro g W hM) | ((with_reducible refine zX ?_); refine mB ?_; clear hM; intro g W hM))
    obtain ⟨gx, rfl⟩ : ∃ gx, gx = g := ⟨_, rfl⟩
    clear hat
    rcases hgp : x.gap with _ | _
    rotate_left 1
    · (
        go_upto_region 10 with (first | ((with_reducible refine lX ?_); refine mL ?_) | ((with_reducible refine sX ?_); refine mS ?_; clear hM; intro W hM) | ((with_reducible refine zX ?_); refine mB ?_; clear hM; intro g W hM))
        all_goals first
         | (exact absurd hgp (Bool.eq_false_iff.1 (by assumption)))
         | (exact absurd (by assumption) (Bool.eq_false_iff.1 hgp))
         | skip
        try simp only [pS, pN, sA, sB, sC]
        go_cut [32] (fun s wx => ∃ V, s = .bool V ∧ Hid (V = (!zZ x)) ∧ qQ w wx [(gx, x.cells, 39), (gp, [.string pa, .string pb, .slice (some ⟨b, o, none⟩) l.length cap, .int .i64 act], 24)])
        case first =>
         go_wp2_with (first | ((with_reducible refine MS ?_); refine fw x rfl rfl rfl rfl ?_) | ((with_reducible refine lX ?_); refine mL ?_) | ((with_reducible refine sX ?_); refine mS ?_; clear hM; intro W hM) | ((with_reducible refine zX ?_); refine mB ?_; clear hM; intro g W hM))
         all_goals
          go_meet
          (repeat apply Exists.intro)
          exact ⟨rfl, hide (by rfl), hM⟩
        case rest =>
        clear hM
        obtain ⟨V10, rfl, HV10, hM⟩ := hcut
        rcases hp10 : zZ x with _ | _
        · obtain rfl : V10 = true := by rw [HV10.out, hp10]; rfl
          go_wp2_with (first | ((with_reducible refine lX ?_); refine mL ?_) | ((with_reducible refine sX ?_); refine mS ?_; clear hM; intro W hM) | ((with_reducible refine zX ?_); refine mB ?_; clear hM; intro g W hM))
          go_ret
          exact ⟨qL (uz HF3 HG HX (fD hgp hp10) (by first | decide | assumption)).symm, hM.below⟩
        obtain rfl : V10 = false := by rw [HV10.out, hp10]; rfl
        go_upto_region 12 with (first | ((with_reducible refine lX ?_); refine mL ?_) | ((with_reducible refine sX ?_); refine mS ?_; clear hM; intro W hM) | ((with_reducible refine zX ?_); refine mB ?_; clear hM; intro g W hM))
        try simp only [pS, pN, sA, sB, sC]
        go_cut [36] (fun s wx => ∃ V, s = .bool V ∧ Hid (V = (decide (k + 1 = l.length) || Te (vz l k))) ∧ qQ w wx [(gx, x.cells, 39), (gp, [.string pa, .string pb, .slice (some ⟨b, o, none⟩) l.length cap, .int .i64 act], 24)])
        case first =>
         rcases HP.out with h0 | ⟨j, y, rfl, hpv, hy⟩
         · obtain ⟨rfl, hpv⟩ := h0.out
           have hlast : ((0 : Int) == (l.length : Int) - 1) = decide (0 + 1 = l.length) := by rw [Bool.eq_iff_iff]; simp; omega
           go_wp2_with (first | ((with_reducible refine lX ?_); refine mL ?_) | ((with_reducible refine sX ?_); refine mS ?_; clear hM; intro W hM) | ((with_reducible refine zX ?_); refine mB ?_; clear hM; intro g W hM))
           all_goals
            go_meet
            (repeat apply Exists.intro)
            exact ⟨rfl, hide (by rw [hpv]; simp [Te]), hM⟩
         · have hyg := QD hy
           have jb : (j : Int) ≤ 60 := by omega
           have iw : IntKind.i64.wrap ((j : Int) + 1 - 1) = j := by rw [show (j : Int) + 1 - 1 = j by omega]; exact IntWalk.i64_in _ (by omega)
           have hz : ((j : Int) + 1 == 0) = false := by simp; omega
           rcases hlast : decide (j + 1 + 1 = l.length) with _ | _ <;> rcases hyq : y.gap with _ | _
           all_goals (
            have hl2 : ((j : Int) + 1 == (l.length : Int) - 1) = decide (j + 1 + 1 = l.length) := by rw [Bool.eq_iff_iff]; simp; omega
            rw [hlast] at hl2
            rw [hyq] at hyg
            clear hlast
            go_wp2_with (first | ((with_reducible refine jK ?_); refine QE hM rfl (by first | exact rfl | (go_simp; done)) rfl (mT rfl) hyg ?_) | ((with_reducible refine lX ?_); refine mL ?_) | ((with_reducible refine sX ?_); refine mS ?_; clear hM; intro W hM) | ((with_reducible refine zX ?_); refine mB ?_; clear hM; intro g W hM))
            all_goals
             go_meet
             (repeat apply Exists.intro)
             exact ⟨rfl, hide (by rw [hpv.out]; simp_all [Te] <;> omega), hM⟩)
        case rest =>
        clear hM
        obtain ⟨V12, rfl, HV12, hM⟩ := hcut
        rcases V12 with _ | _
        · go_wp2_with (first | ((with_reducible refine lX ?_); refine mL ?_) | ((with_reducible refine sX ?_); refine mS ?_; clear hM; intro W hM) | ((with_reducible refine zX ?_); refine mB ?_; clear hM; intro g W hM))
          all_goals first
          | (go_roundw; (case rel => exact ⟨k + 1, la, by omega, rfl, by go_num, hide (JL HG HX (Po hgp hp10 HV12.out.symm)), jU hM⟩); (case measure => simp [intOf]; omega))
        · go_wp2_with (first | ((with_reducible refine lX ?_); refine mL ?_) | ((with_reducible refine sX ?_); refine mS ?_; clear hM; intro W hM) | ((with_reducible refine zX ?_); refine mB ?_; clear hM; intro g W hM))
          go_ret
          exact ⟨qL (uz HF3 HG HX (Pn hgp hp10 HV12.out.symm) (by first | decide | assumption)).symm, hM.below⟩
      )
    · (
        simp only [En.cells, hgp] at AL
        obtain ⟨E0, hE0⟩ : ∃ E0, vW x = E0 := ⟨_, rfl⟩
        have HE := hide hE0
        rw [hE0] at AL
        clear hE0
        by_cases hne : E0 = 0
        rotate_left 1
        · have hnb : (E0 != 0) = true := by simpa using hne
          go_wp2_with (first | (go_at_call 50; (with_reducible refine (AL _ (hide (qD hM hu.out))).mono ?_); rintro e W1 ⟨rfl, hb⟩; replace hM := qp hM hb; clear hb) | ((with_reducible refine lX ?_); refine mL ?_) | ((with_reducible refine sX ?_); refine mS ?_; clear hM; intro W hM) | ((with_reducible refine zX ?_); refine mB ?_; clear hM; intro g W hM))
          all_goals first
           | (exact absurd (by assumption) (Bool.eq_false_iff.1 hgp))
           | (go_ret; exact ⟨qL ((uz HF3 HG HX (eT hgp (by rw [HE.out]; exact hne)) (by rw [HE.out]; exact hne)).trans HE.out).symm, hM.below⟩)
        subst hne
        go_upto_region 17 with (first | (go_at_call 50; (with_reducible refine (AL _ (hide (qD hM hu.out))).mono ?_); rintro e W1 ⟨rfl, hb⟩; replace hM := qp hM hb; clear hb) | ((with_reducible refine lX ?_); refine mL ?_) | ((with_reducible refine sX ?_); refine mS ?_; clear hM; intro W hM) | ((with_reducible refine zX ?_); refine mB ?_; clear hM; intro g W hM))
        all_goals first
         | (exact absurd (by assumption) (Bool.eq_false_iff.1 hgp))
         | skip
        try simp only [pS, pN, sA, sB, sC]
        go_cut [71] (fun s wx => ∃ V, s = .bool V ∧ Hid (V = Te (vz l k)) ∧ qQ w wx [(gx, x.cells, 39), (gp, [.string pa, .string pb, .slice (some ⟨b, o, none⟩) l.length cap, .int .i64 act], 24)])
        case first =>
         rcases HP.out with h0 | ⟨j, y, rfl, hpv, hy⟩
         · obtain ⟨rfl, hpv⟩ := h0.out
           go_wp2_with (first | ((with_reducible refine lX ?_); refine mL ?_) | ((with_reducible refine sX ?_); refine mS ?_; clear hM; intro W hM) | ((with_reducible refine zX ?_); refine mB ?_; clear hM; intro g W hM))
           all_goals
            go_meet
            (repeat apply Exists.intro)
            exact ⟨rfl, hide (by rw [hpv]; rfl), hM⟩
         · have hyg := QD hy
           have jb : (j : Int) ≤ 60 := by omega
           have iw : IntKind.i64.wrap ((j : Int) + 1 - 1) = j := by rw [show (j : Int) + 1 - 1 = j by omega]; exact IntWalk.i64_in _ (by omega)
           have hz : ((j : Int) + 1 == 0) = false := by simp; omega
           go_wp2_with (first | ((with_reducible refine jK ?_); refine QE hM rfl (by first | exact rfl | (go_simp; done)) rfl (mT rfl) hyg ?_) | ((with_reducible refine lX ?_); refine mL ?_) | ((with_reducible refine sX ?_); refine mS ?_; clear hM; intro W hM) | ((with_reducible refine zX ?_); refine mB ?_; clear hM; intro g W hM))
           all_goals
            go_meet
            (repeat apply Exists.intro)
            exact ⟨rfl, hide (by rw [hpv.out]; rfl), hM⟩
        case rest =>
        clear hM
        obtain ⟨V17, rfl, HV17, hM⟩ := hcut
        have ST := fun W => pG x.ty W
        rcases V17 with _ | _
        rotate_left 1
        · have h17 := HV17.out.symm
          have HS := hide (eX (lo := decide (k + 1 = l.length)) (la := la) hgp HE.out h17)
          clear h17
          rcases hst : bd x.ty with _ | _
          · rw [hst] at ST
            go_wp2_with (first | (go_at_call 51; (with_reducible refine (ST _).mono ?_); rintro e W1 ⟨rfl, rfl⟩) | ((with_reducible refine lX ?_); refine mL ?_) | ((with_reducible refine sX ?_); refine mS ?_; clear hM; intro W hM) | ((with_reducible refine zX ?_); refine mB ?_; clear hM; intro g W hM))
            go_ret
            exact ⟨qL (uz HF3 HG HX (HS.out.trans (if_pos hst)) (by decide)).symm, hM.below⟩
          rw [hst] at ST
          have HS2 : Hid (yG (vz l k) x (decide (k + 1 = l.length)) la = if x.sec < la then (9, la) else (0, x.sec)) := hide (by rw [HS.out, hst, if_neg (by simp)])
          clear HS hst
          go_upto_region 25 with (first | (go_at_call 51; (with_reducible refine (ST _).mono ?_); rintro e W1 ⟨rfl, rfl⟩) | ((with_reducible refine lX ?_); refine mL ?_) | ((with_reducible refine sX ?_); refine mS ?_; clear hM; intro W hM) | ((with_reducible refine zX ?_); refine mB ?_; clear hM; intro g W hM))
          by_cases hsec : x.sec < la
          · go_wp2_with (first | ((with_reducible refine lX ?_); refine mL ?_) | ((with_reducible refine sX ?_); refine mS ?_; clear hM; intro W hM) | ((with_reducible refine zX ?_); refine mB ?_; clear hM; intro g W hM))
            all_goals first
             | (exfalso; omega)
             | (go_ret; exact ⟨qL (uz HF3 HG HX (HS2.out.trans (if_pos hsec)) (by decide)).symm, hM.below⟩)
          · go_wp2_with (first | ((with_reducible refine lX ?_); refine mL ?_) | ((with_reducible refine sX ?_); refine mS ?_; clear hM; intro W hM) | ((with_reducible refine zX ?_); refine mB ?_; clear hM; intro g W hM))
            all_goals first
             | (exfalso; omega)
             | (go_roundw; (case rel => exact ⟨k + 1, x.sec, by omega, rfl, by go_num, hide (JL HG HX (HS2.out.trans (if_neg hsec))), jU hM⟩); (case measure => simp [intOf]; omega))
        · rcases HP.out with h0 | ⟨j, y, rfl, hpv, hy⟩
          · exfalso
            have := HV17.out
            rw [h0.out.2] at this
            cases this
          have hyg0 : y.gap = false := by
           have := HV17.out
           rw [hpv.out] at this
           exact this.symm
          have HS := hide (Pp (y := y) (lo := decide (j + 1 + 1 = l.length)) (la := la) hgp HE.out hyg0)
          clear hyg0
          have hyl := BJ hy
          have jb : (j : Int) ≤ 60 := by omega
          have iw : IntKind.i64.wrap ((j : Int) + 1 - 1) = j := by rw [show (j : Int) + 1 - 1 = j by omega]; exact IntWalk.i64_in _ (by omega)
          have JO := fun W => fA y x W
          have AR := fun W => Ta y x W
          simp only [En.leg] at JO AR
          have HPV := hpv
          go_upto_region 21 with (first | ((with_reducible refine jK ?_); refine uT hM rfl (by first | exact rfl | (go_simp; done)) rfl (BC rfl) hyl (Qu rfl) ?_) | ((with_reducible refine lX ?_); refine mL ?_) | ((with_reducible refine sX ?_); refine mS ?_; clear hM; intro W hM) | ((with_reducible refine zX ?_); refine mB ?_; clear hM; intro g W hM))
          obtain ⟨gy, rfl⟩ : ∃ gy, gy = g := ⟨_, rfl⟩
          rcases hjo : VW y x with _ | _
          · rw [hjo] at JO
            go_wp2_with (first | (go_at_call 52; (with_reducible refine cb hM (JO _) ?_); clear hM; intro W1 hM) | ((with_reducible refine lX ?_); refine mL ?_) | ((with_reducible refine sX ?_); refine mS ?_; clear hM; intro W hM) | ((with_reducible refine zX ?_); refine mB ?_; clear hM; intro g W hM))
            go_ret
            exact ⟨qL (uz HF3 HG HX ((by rw [hpv.out]; exact HS.out.trans (if_pos hjo) : yG (vz l (j + 1)) x (decide (j + 1 + 1 = l.length)) la = (9, la))) (by decide)).symm, hM.below⟩
          rw [hjo] at JO
          go_upto_region 23 with (first | (go_at_call 52; (with_reducible refine cb hM (JO _) ?_); clear hM; intro W1 hM) | ((with_reducible refine lX ?_); refine mL ?_) | ((with_reducible refine sX ?_); refine mS ?_; clear hM; intro W hM) | ((with_reducible refine zX ?_); refine mB ?_; clear hM; intro g W hM))
          try simp only [pS, pN, sA, sB, sC]
          go_cut [104] (fun s wx => ∃ V, s = .bool V ∧ Hid (V = (decide (x.ty = 2 ∨ x.ty = 4) && tJ y x)) ∧ qQ w wx ((gy, y.leg, 36) :: [(gx, x.cells, 39), (gp, [.string pa, .string pb, .slice (some ⟨b, o, none⟩) l.length cap, .int .i64 act], 24)]))
          case first =>
           rcases har : tJ y x with _ | _
           all_goals (
            rw [har] at AR
            have hty : ((x.ty == 2) = true ∧ decide (x.ty = 2 ∨ x.ty = 4) = true) ∨ ((x.ty == 2) = false ∧ (x.ty == 4) = true ∧ decide (x.ty = 2 ∨ x.ty = 4) = true) ∨ ((x.ty == 2) = false ∧ (x.ty == 4) = false ∧ decide (x.ty = 2 ∨ x.ty = 4) = false) := by
             rcases h2 : (x.ty == 2) with _ | _
             · rcases h4 : (x.ty == 4) with _ | _
               · exact .inr (.inr ⟨rfl, rfl, by simp at h2 h4; simp [h2, h4]⟩)
               · exact .inr (.inl ⟨rfl, rfl, by simp at h4; simp [h4]⟩)
             · exact .inl ⟨rfl, by simp at h2; simp [h2]⟩
            rcases hty with ⟨t2, td⟩ | ⟨t2, t4, td⟩ | ⟨t2, t4, td⟩
            all_goals (
             have HTD := hide td
             clear td
             go_wp2_with (first | (go_at_call 53; (with_reducible refine cb hM (AR _) ?_); clear hM; intro W1 hM) | ((with_reducible refine lX ?_); refine mL ?_) | ((with_reducible refine sX ?_); refine mS ?_; clear hM; intro W hM) | ((with_reducible refine zX ?_); refine mB ?_; clear hM; intro g W hM))
             all_goals
              go_meet
              (repeat apply Exists.intro)
              exact ⟨rfl, hide (by rw [HTD.out, har]; rfl), hM⟩))
          case rest =>
          clear hM
          obtain ⟨V23, rfl, HV23, hM⟩ := hcut
          rcases V23 with _ | _
          rotate_left 1
          · go_wp2_with (first | ((with_reducible refine lX ?_); refine mL ?_) | ((with_reducible refine sX ?_); refine mS ?_; clear hM; intro W hM) | ((with_reducible refine zX ?_); refine mB ?_; clear hM; intro g W hM))
            go_ret
            exact ⟨qL (uz HF3 HG HX ((by rw [hpv.out, HS.out, hjo, if_neg (by simp), if_pos (by have h2 := HV23.out; simpa using h2.symm)] : yG (vz l (j + 1)) x (decide (j + 1 + 1 = l.length)) la = (7, la))) (by decide)).symm, hM.below⟩
          have HS2 : Hid (yG (vz l (j + 1)) x (decide (j + 1 + 1 = l.length)) la = if x.sec < la then (9, la) else (0, x.sec)) := hide (by
           rw [hpv.out, HS.out, hjo, if_neg (by simp), if_neg (fun h => by have h2 := HV23.out; rw [decide_eq_true h.1, h.2] at h2; cases h2)])
          clear HS hjo
          go_upto_region 25 with (first | ((with_reducible refine lX ?_); refine mL ?_) | ((with_reducible refine sX ?_); refine mS ?_; clear hM; intro W hM) | ((with_reducible refine zX ?_); refine mB ?_; clear hM; intro g W hM))
          by_cases hsec : x.sec < la
          · go_wp2_with (first | ((with_reducible refine lX ?_); refine mL ?_) | ((with_reducible refine sX ?_); refine mS ?_; clear hM; intro W hM) | ((with_reducible refine zX ?_); refine mB ?_; clear hM; intro g W hM))
            all_goals first
             | (exfalso; omega)
             | (go_ret; exact ⟨qL (uz HF3 HG HX (HS2.out.trans (if_pos hsec)) (by decide)).symm, hM.below⟩)
          · go_wp2_with (first | ((with_reducible refine lX ?_); refine mL ?_) | ((with_reducible refine sX ?_); refine mS ?_; clear hM; intro W hM) | ((with_reducible refine zX ?_); refine mB ?_; clear hM; intro g W hM))
            all_goals first
             | (exfalso; omega)
             | (go_roundw; (case rel => exact ⟨j + 1 + 1, x.sec, by omega, rfl, by go_num, hide (JL HG HX (HS2.out.trans (if_neg hsec))), jU (jU hM)⟩); (case measure => simp [intOf]; omega))
      )
    )
  · (
    obtain rfl : k = l.length := by omega
    have HE : Hid (jN pa pb l act = if (act ≠ -1 ∧ (act < 0 ∨ act ≥ (l.length : Int) ∨ Jd l act = true)) then 2 else 0) := hide (by
     have h0 := HG.out.trans (fE (by omega) la)
     rw [HF3.out, h0, if_neg (by simp)])
    clear HG HF3
    go_upto_region 29 with (first | ((with_reducible refine lX ?_); refine mL ?_) | ((with_reducible refine sX ?_); refine mS ?_; clear hM; intro W hM) | ((with_reducible refine zX ?_); refine mB ?_; clear hM; intro g W hM))
    all_goals first
     | (exfalso; omega)
     | skip
    obtain ⟨V29, hV29⟩ : ∃ V, decide (act ≠ -1 ∧ (act < 0 ∨ act ≥ (l.length : Int) ∨ Jd l act = true)) = V := ⟨_, rfl⟩
    have HV := hide hV29
    clear hV29
    go_cut [136] (fun s wx => s = .bool V29 ∧ qQ w wx [(gp, [.string pa, .string pb, .slice S l.length cap, .int .i64 act], 24)])
    case first =>
     by_cases a1 : act = -1
     · have hv : V29 = false := by rw [← HV.out]; exact decide_eq_false (fun h => h.1 a1)
       subst a1 hv
       clear HV
       go_wp2_with (first | ((with_reducible refine lX ?_); refine mL ?_) | ((with_reducible refine sX ?_); refine mS ?_; clear hM; intro W hM) | ((with_reducible refine zX ?_); refine mB ?_; clear hM; intro g W hM))
       all_goals
        go_meet
        exact ⟨by first | rfl | exact congrArg Value.bool (by simp_all [bne]), hM⟩
     have q1 : (act == -1) = false := by simpa using a1
     by_cases a2 : act < 0
     · have hv : V29 = true := by rw [← HV.out]; exact decide_eq_true ⟨a1, .inl a2⟩
       subst hv
       clear HV
       go_wp2_with (first | ((with_reducible refine lX ?_); refine mL ?_) | ((with_reducible refine sX ?_); refine mS ?_; clear hM; intro W hM) | ((with_reducible refine zX ?_); refine mB ?_; clear hM; intro g W hM))
       all_goals
        go_meet
        exact ⟨by first | rfl | exact congrArg Value.bool (by simp_all [bne]), hM⟩
     by_cases a3 : act ≥ (l.length : Int)
     · have hv : V29 = true := by rw [← HV.out]; exact decide_eq_true ⟨a1, .inr (.inl a3)⟩
       subst hv
       clear HV
       go_wp2_with (first | ((with_reducible refine lX ?_); refine mL ?_) | ((with_reducible refine sX ?_); refine mS ?_; clear hM; intro W hM) | ((with_reducible refine zX ?_); refine mB ?_; clear hM; intro g W hM))
       all_goals
        go_meet
        exact ⟨by first | rfl | exact congrArg Value.bool (by simp_all [bne]), hM⟩
     obtain ⟨n, rfl⟩ : ∃ n : Nat, act = n := ⟨act.toNat, by omega⟩
     obtain ⟨y, hy⟩ : ∃ y, l[n]? = some y := ⟨_, List.getElem?_eq_getElem (by omega)⟩
     obtain ⟨b, o, rfl, hat⟩ := hp.out n y hy
     have hyg := QD hat
     have hv : V29 = y.gap := by
      rw [← HV.out]
      have e : Jd l (n : Int) = y.gap := by unfold Jd; rw [Int.toNat_natCast, hy]
      rw [e]
      rcases y.gap with _ | _
      · exact decide_eq_false (fun h => by rcases h.2 with h | h | h <;> first | omega | cases h)
      · exact decide_eq_true ⟨a1, .inr (.inr rfl)⟩
     subst hv
     have n1 : (n : Int) < (l.length : Int) := by omega
     clear HV a2 a3 hat hy
     go_wp2_with (first | ((with_reducible refine jK ?_); refine QE hM rfl (by first | exact rfl | (go_simp; done)) rfl (mT rfl) hyg ?_) | ((with_reducible refine lX ?_); refine mL ?_) | ((with_reducible refine sX ?_); refine mS ?_; clear hM; intro W hM) | ((with_reducible refine zX ?_); refine mB ?_; clear hM; intro g W hM))
     all_goals
      go_meet
      exact ⟨by first | rfl | exact congrArg Value.bool (by simp [q1, show ¬ ((n : Int) < 0) by omega, show ¬ (l.length ≤ n) by omega]), hM⟩
    case rest =>
    clear hM
    obtain ⟨rfl, hM⟩ := hcut
    rcases V29 with _ | _
    · have HE2 : Hid (jN pa pb l act = 0) := hide (by rw [HE.out, if_neg (of_decide_eq_false HV.out)])
      clear HE HV
      go_wp2_with (first | ((with_reducible refine lX ?_); refine mL ?_) | ((with_reducible refine sX ?_); refine mS ?_; clear hM; intro W hM) | ((with_reducible refine zX ?_); refine mB ?_; clear hM; intro g W hM))
      go_ret
      exact ⟨qL HE2.out.symm, hM.below⟩
    · have HE2 : Hid (jN pa pb l act = 2) := hide (by rw [HE.out, if_pos (of_decide_eq_true HV.out)])
      clear HE HV
      go_wp2_with (first | ((with_reducible refine lX ?_); refine mL ?_) | ((with_reducible refine sX ?_); refine mS ?_; clear hM; intro W hM) | ((with_reducible refine zX ?_); refine mB ?_; clear hM; intro g W hM))
      go_ret
      exact ⟨qL HE2.out.symm, hM.below⟩
    )
end Go.Proofs.YteanfgobpjdmnaaGreatDoor
