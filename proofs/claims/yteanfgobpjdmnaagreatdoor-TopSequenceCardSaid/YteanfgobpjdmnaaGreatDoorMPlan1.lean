/-
  Neq
-/
import Derived.Test.YteanfgobpjdmnaaGreatDoorMResD
import Derived.Test.YteanfgobpjdmnaaGreatDoorMMemD
namespace Go.Proofs.YteanfgobpjdmnaaGreatDoor
open Go.RowKit
set_option linter.unusedVariables false
set_option maxRecDepth 100000 in
set_option maxHeartbeats 2000000 in
theorem Pk (x : En) (w : World) : (binOp .neq 39 (.agg #[.bool true, .int .u8 x.ty, .string x.fx, .string x.ct, .int .u8 x.tn, .bool x.ov, .int .i64 x.crs, .int .i64 x.dst, .int .i64 x.rad, .int .i64 x.tht, .int .i64 x.lo, .int .i64 x.hi, .int .i64 x.spd, .int .i64 x.rnp, .int .i64 x.ex, .int .i64 x.ey, .int .i64 x.mx, .int .i64 x.my, .int .u8 x.sec, .string x.via]) (.agg #[.bool true, .int .u8 0, .string ⟨#[]⟩, .string ⟨#[]⟩, .int .u8 0, .bool false, .int .i64 0, .int .i64 0, .int .i64 0, .int .i64 0, .int .i64 0, .int .i64 0, .int .i64 0, .int .i64 0, .int .i64 0, .int .i64 0, .int .i64 0, .int .i64 0, .int .u8 0, .string ⟨#[]⟩])).run Tryz.prog w = .ok (.bool (!zZ x)) w := by
 have s0 : ∀ s : ByteArray, s.toList = [] ↔ s = ⟨#[]⟩ := fun s => by rw [Lib.toList_data]; exact ⟨gD, fun e => by rw [e]⟩
 go_simp
 clear s0
 by_cases hty : x.ty = 0
 rotate_left 1
 · rw [if_neg hty, show zZ x = false by simp [zZ, hty]]; rfl
 rw [if_pos hty]
 by_cases hfx : x.fx = ⟨#[]⟩
 rotate_left 1
 · rw [if_neg hfx, show zZ x = false by simp [zZ, hfx]]; rfl
 rw [if_pos hfx]
 by_cases hct : x.ct = ⟨#[]⟩
 rotate_left 1
 · rw [if_neg hct, show zZ x = false by simp [zZ, hct]]; rfl
 rw [if_pos hct]
 by_cases htn : x.tn = 0
 rotate_left 1
 · rw [if_neg htn, show zZ x = false by simp [zZ, htn]]; rfl
 rw [if_pos htn]
 by_cases hov : x.ov = true
 · rw [if_pos hov, show zZ x = false by simp [zZ, hov]]; rfl
 rw [if_neg hov]
 by_cases hcrs : x.crs = 0
 rotate_left 1
 · rw [if_neg hcrs, show zZ x = false by simp [zZ, hcrs]]; rfl
 rw [if_pos hcrs]
 by_cases hdst : x.dst = 0
 rotate_left 1
 · rw [if_neg hdst, show zZ x = false by simp [zZ, hdst]]; rfl
 rw [if_pos hdst]
 by_cases hrad : x.rad = 0
 rotate_left 1
 · rw [if_neg hrad, show zZ x = false by simp [zZ, hrad]]; rfl
 rw [if_pos hrad]
 by_cases htht : x.tht = 0
 rotate_left 1
 · rw [if_neg htht, show zZ x = false by simp [zZ, htht]]; rfl
 rw [if_pos htht]
 by_cases hlo : x.lo = 0
 rotate_left 1
 · rw [if_neg hlo, show zZ x = false by simp [zZ, hlo]]; rfl
 rw [if_pos hlo]
 by_cases hhi : x.hi = 0
 rotate_left 1
 · rw [if_neg hhi, show zZ x = false by simp [zZ, hhi]]; rfl
 rw [if_pos hhi]
 by_cases hspd : x.spd = 0
 rotate_left 1
 · rw [if_neg hspd, show zZ x = false by simp [zZ, hspd]]; rfl
 rw [if_pos hspd]
 by_cases hrnp : x.rnp = 0
 rotate_left 1
 · rw [if_neg hrnp, show zZ x = false by simp [zZ, hrnp]]; rfl
 rw [if_pos hrnp]
 by_cases hex : x.ex = 0
 rotate_left 1
 · rw [if_neg hex, show zZ x = false by simp [zZ, hex]]; rfl
 rw [if_pos hex]
 by_cases hey : x.ey = 0
 rotate_left 1
 · rw [if_neg hey, show zZ x = false by simp [zZ, hey]]; rfl
 rw [if_pos hey]
 by_cases hmx : x.mx = 0
 rotate_left 1
 · rw [if_neg hmx, show zZ x = false by simp [zZ, hmx]]; rfl
 rw [if_pos hmx]
 by_cases hmy : x.my = 0
 rotate_left 1
 · rw [if_neg hmy, show zZ x = false by simp [zZ, hmy]]; rfl
 rw [if_pos hmy]
 by_cases hsec : x.sec = 0
 rotate_left 1
 · rw [if_neg hsec, show zZ x = false by simp [zZ, hsec]]; rfl
 rw [if_pos hsec]
 by_cases hvia : x.via = ⟨#[]⟩
 rotate_left 1
 · rw [if_neg hvia, show zZ x = false by simp [zZ, hvia]]; rfl
 rw [if_pos hvia]
 have hp : zZ x = true := by simp [zZ, hty, hfx, hct, htn, hov, hcrs, hdst, hrad, htht, hlo, hhi, hspd, hrnp, hex, hey, hmx, hmy, hsec, hvia]
 rw [hp]; rfl
section
variable {ops : Array Oper} {Q : Exit → Act → World → Prop} {a : Act} {w : World} {rest : List Oper} {o : Oper}
theorem MS {ty : TypeId} {P : Program} {d : Option Tmp} {x y : Operand} {rt : TypeId} {t : TypeId} {p : String} {l : Array Edge} {g : Option (Nat × Bool)}
 (h : wpList P ops Q ({ dst := d, op := .binOp .neq ty x y rt, type := t, pos := p, after := l, guard := g } :: rest) a w) : wpList P ops Q ({ dst := d, op := .binOp .neq ty x y rt, type := t, pos := p, after := l, guard := g } :: rest) a w := h
theorem fw (x : En) {p q : Operand} {rt : TypeId} (ho : o.op = .binOp .neq 39 p q rt) (hgd : o.guard = none) (hp : a.eval p = .agg #[.bool true, .int .u8 x.ty, .string x.fx, .string x.ct, .int .u8 x.tn, .bool x.ov, .int .i64 x.crs, .int .i64 x.dst, .int .i64 x.rad, .int .i64 x.tht, .int .i64 x.lo, .int .i64 x.hi, .int .i64 x.spd, .int .i64 x.rnp, .int .i64 x.ex, .int .i64 x.ey, .int .i64 x.mx, .int .i64 x.my, .int .u8 x.sec, .string x.via])
 (hq : a.eval q = .agg #[.bool true, .int .u8 0, .string ⟨#[]⟩, .string ⟨#[]⟩, .int .u8 0, .bool false, .int .i64 0, .int .i64 0, .int .i64 0, .int .i64 0, .int .i64 0, .int .i64 0, .int .i64 0, .int .i64 0, .int .i64 0, .int .i64 0, .int .i64 0, .int .i64 0, .int .u8 0, .string ⟨#[]⟩])
 (h : wpList Tryz.prog ops Q rest (a.put o.dst (.bool (!zZ x))) w) : wpList Tryz.prog ops Q (o :: rest) a w :=
 wpList_plain hgd fun _ hK => by
  have hr := Pk x w
  unfold Oper.wp execOp
  simp only [ho, hp, hq, Sem.run_bind, run_eqGuard_agg (P := Tryz.prog) w .neq 39 p q _ _ (by kernel_rfl), Result.andThen_ok, hr]
  exact hK _ _ h
end
set_option maxRecDepth 100000
set_option maxHeartbeats 16000000
set_option linter.unusedSimpArgs false
theorem dc {s t : ByteArray} : s.toList = t.toList ↔ s = t := by
 rw [Lib.toList_data, Lib.toList_data]
 constructor
 · intro h
   cases s with
   | mk a =>
     cases t with
     | mk b =>
       simp at h
       rw [h]
 · intro h
   rw [h]
theorem GY (s : ByteArray) (b : UInt8) (m : Int) (hs : s.size ≤ maxLen) (w : World) :
 Calls Tryz.prog 83 #[.string s, .string ⟨#[b]⟩, .int .i64 m] w (Gb (.bool (Jc s.data.toList b m)) w) := by
 go_enter Tryz.func83, Tryz.ntmps83
 go_wp2_with fail
 refine (dF s b hs _).mono ?_
 rintro e w1 ⟨x, y, f, rfl, hc, n, rfl⟩
 have hsz := TE hc
 have NX := fun W => YT x m (by omega) W
 have NY := fun W => YT y m (by omega) W
 rcases f with _ | _
 · have HP := hide (ij hc m)
   clear hc hsz
   rcases h1 : yY x.data.toList m with _ | _
   all_goals
    rw [h1] at NX HP
    clear h1
    go_wp2_with (first | (go_at_call 112; with_reducible refine (NX _).mono ?_; rintro e w2 ⟨rfl, rfl⟩))
    go_ret
    exact ⟨yR HP.out.symm, n, rfl⟩
 · have HP := hide (ik hc m)
   clear hc hsz
   rcases h1 : yY x.data.toList m with _ | _
   all_goals
    rw [h1] at NX HP
    clear h1
    rcases h2 : yY y.data.toList m with _ | _
    all_goals
     rw [h2] at NY HP
     clear h2
     go_wp2_with (first | (go_at_call 112; with_reducible refine (NX _).mono ?_; rintro e w2 ⟨rfl, rfl⟩) | (go_at_call 112; with_reducible refine (NY _).mono ?_; rintro e w2 ⟨rfl, rfl⟩))
     go_ret
     exact ⟨yR HP.out.symm, n, rfl⟩
theorem Uu (s : ByteArray) (hs : s.size ≤ maxLen) (w : World) :
 Calls Tryz.prog 49 #[.string s] w (Gb (.bool (xm s)) w) := by
 by_cases h : s = ⟨#[]⟩
 · subst h
   go_enter Tryz.func49, Tryz.ntmps49
   go_wp2_with fail
   all_goals
    go_ret
    exact ⟨yR rfl, 0, rfl⟩
 · have HR : Hid (xm s = Jc s.data.toList 47 6) := hide (by unfold xm; rw [decide_eq_false (fun e => h (gD e))]; rfl)
   have hl : s.toList = [] ↔ False := by
    rw [Lib.toList_data]
    exact ⟨fun e => h (gD e), False.elim⟩
   have hl2 : (s.toList == []) = false := by
    rw [beq_eq_false_iff_ne]; exact fun e => hl.1 e
   have hl3 : s.toList.isEmpty = false := by
    cases hq : s.toList with
    | nil => exact (hl.1 hq).elim
    | cons a b => rfl
   clear h
   have PA := fun W => GY s 47 6 hs W
   go_enter Tryz.func49, Tryz.ntmps49
   go_wp2_with (first | (go_at_call 83; (with_reducible refine (PA _).mono ?_); rintro e w2 ⟨rfl, n, rfl⟩))
   all_goals first
    | (exfalso; simp_all; done)
    | (go_ret
       exact ⟨yR HR.out.symm, _, rfl⟩)
theorem Pm (s : ByteArray) (hs : s.size ≤ maxLen) (w : World) :
 Calls Tryz.prog 85 #[.string s] w (Gb (.bool (ig s)) w) := by
 by_cases h : s = ⟨#[]⟩
 · subst h
   go_enter Tryz.func85, Tryz.ntmps85
   go_wp2_with fail
   all_goals
    go_ret
    exact ⟨yR rfl, 0, rfl⟩
 · have HR : Hid (ig s = Jc s.data.toList 46 8) := hide (by unfold ig; rw [decide_eq_false (fun e => h (gD e))]; rfl)
   have hl : s.toList = [] ↔ False := by
    rw [Lib.toList_data]
    exact ⟨fun e => h (gD e), False.elim⟩
   have hl2 : (s.toList == []) = false := by
    rw [beq_eq_false_iff_ne]; exact fun e => hl.1 e
   have hl3 : s.toList.isEmpty = false := by
    cases hq : s.toList with
    | nil => exact (hl.1 hq).elim
    | cons a b => rfl
   clear h
   have PA := fun W => GY s 46 8 hs W
   go_enter Tryz.func85, Tryz.ntmps85
   go_wp2_with (first | (go_at_call 83; (with_reducible refine (PA _).mono ?_); rintro e w2 ⟨rfl, n, rfl⟩))
   all_goals first
    | (exfalso; simp_all; done)
    | (go_ret
       exact ⟨yR HR.out.symm, _, rfl⟩)
theorem BI (t : Int) (w : World) : Calls Tryz.prog 84 #[.int .u8 t] w fun e w' => e = .returned (.bool (decide (1 ≤ t ∧ t ≤ 5))) ∧ w = w' := by
 obtain ⟨V, hV⟩ : ∃ V, decide (1 ≤ t ∧ t ≤ 5) = V := ⟨_, rfl⟩
 rw [hV]
 have hcs : (decide (1 ≤ t) = false ∧ V = false) ∨ (decide (1 ≤ t) = true ∧ decide (t ≤ 5) = V) := by
  by_cases h : 1 ≤ t
  · exact .inr ⟨decide_eq_true h, by rw [← hV]; exact decide_eq_decide.2 (by omega)⟩
  · exact .inl ⟨decide_eq_false h, by rw [← hV]; exact decide_eq_false (by omega)⟩
 clear hV
 rcases hcs with ⟨e1, rfl⟩ | ⟨e1, e2⟩
 · go_enter Tryz.func84, Tryz.ntmps84
   go_wp2_with fail
   all_goals
    go_ret
    exact ⟨rfl, rfl⟩
 · go_enter Tryz.func84, Tryz.ntmps84
   go_wp2_with fail
   all_goals
    go_ret
    first | exact ⟨rfl, rfl⟩ | exact ⟨yR e2, rfl⟩
theorem pG (t : Int) (w : World) :
 Calls Tryz.prog 51 #[.int .u8 t] w fun e w' => e = .returned (.bool (bd t)) ∧ w = w' := by
 go_enter Tryz.func51, Tryz.ntmps51
 go_wp2_with fail
 all_goals
  go_ret
  exact ⟨yR (by unfold bd; (first | rfl | ((try simp only [beq_iff_eq, beq_eq_false_iff_ne, bne_iff_ne, bne_eq_false_iff_eq, ne_eq, decide_eq_true_eq, decide_eq_false_iff_not, Bool.not_eq_true] at *); first | omega | (refine (decide_eq_true ?_).symm; omega) | (refine (decide_eq_false ?_).symm; omega) | (refine decide_eq_decide.2 ?_; omega) | (rw [Bool.eq_iff_iff]; simp only [Bool.or_eq_true, Bool.and_eq_true, beq_iff_eq, bne_iff_ne, ne_eq, decide_eq_true_eq, Bool.not_eq_true', decide_eq_false_iff_not]; omega)))), rfl⟩
theorem eO (t : Int) (w : World) :
 Calls Tryz.prog 88 #[.int .u8 t] w fun e w' => e = .returned (.bool (Tc t)) ∧ w = w' := by
 go_enter Tryz.func88, Tryz.ntmps88
 go_wp2_with fail
 all_goals
  go_ret
  exact ⟨yR (by unfold Tc; (first | rfl | ((try simp only [beq_iff_eq, beq_eq_false_iff_ne, bne_iff_ne, bne_eq_false_iff_eq, ne_eq, decide_eq_true_eq, decide_eq_false_iff_not, Bool.not_eq_true] at *); first | omega | (refine (decide_eq_true ?_).symm; omega) | (refine (decide_eq_false ?_).symm; omega) | (refine decide_eq_decide.2 ?_; omega) | (rw [Bool.eq_iff_iff]; simp only [Bool.or_eq_true, Bool.and_eq_true, beq_iff_eq, bne_iff_ne, ne_eq, decide_eq_true_eq, Bool.not_eq_true', decide_eq_false_iff_not]; omega)))), rfl⟩
theorem eQ (t : Int) (w : World) :
 Calls Tryz.prog 87 #[.int .u8 t] w fun e w' => e = .returned (.bool (Td t)) ∧ w = w' := by
 go_enter Tryz.func87, Tryz.ntmps87
 go_wp2_with fail
 all_goals
  go_ret
  exact ⟨yR (by unfold Td; (first | rfl | ((try simp only [beq_iff_eq, beq_eq_false_iff_ne, bne_iff_ne, bne_eq_false_iff_eq, ne_eq, decide_eq_true_eq, decide_eq_false_iff_not, Bool.not_eq_true] at *); first | omega | (refine (decide_eq_true ?_).symm; omega) | (refine (decide_eq_false ?_).symm; omega) | (refine decide_eq_decide.2 ?_; omega) | (rw [Bool.eq_iff_iff]; simp only [Bool.or_eq_true, Bool.and_eq_true, beq_iff_eq, bne_iff_ne, ne_eq, decide_eq_true_eq, Bool.not_eq_true', decide_eq_false_iff_not]; omega)))), rfl⟩
theorem GZ (a b : Int) (w : World) :
 Calls Tryz.prog 86 #[.int .u8 a, .int .u8 b] w fun e w' => e = .returned (.bool (bN a b)) ∧ w = w' := by
 by_cases ha : a < 1 ∨ 17 < a
 · have KA := fun W => Vw a W ha
   have HR : Hid (bN a b = false) := hide (decide_eq_false (by omega))
   clear ha
   go_enter Tryz.func86, Tryz.ntmps86
   go_wp2_with (go_at_call 89; (with_reducible refine (KA _).mono ?_); rintro e W1 ⟨rfl, rfl⟩)
   all_goals
    go_ret
    exact ⟨yR HR.out.symm, rfl⟩
 have KA := fun W => jF a W (by omega) (by omega)
 by_cases hb : b < 1 ∨ 17 < b
 · have KB := fun W => Vw b W hb
   have HR : Hid (bN a b = false) := hide (decide_eq_false (by omega))
   clear ha hb
   go_enter Tryz.func86, Tryz.ntmps86
   go_wp2_with (first | (go_at_call 89; (with_reducible refine (KA _).mono ?_); rintro e W1 ⟨rfl, rfl⟩) | (go_at_call 89; (with_reducible refine (KB _).mono ?_); rintro e W1 ⟨rfl, rfl⟩))
   all_goals
    go_ret
    exact ⟨yR HR.out.symm, rfl⟩
 have KB := fun W => jF b W (by omega) (by omega)
 have a1 : 1 ≤ a := by omega
 have a2 : a ≤ 17 := by omega
 have b1 : 1 ≤ b := by omega
 have b2 : b ≤ 17 := by omega
 clear ha hb
 go_enter Tryz.func86, Tryz.ntmps86
 go_wp2_with (first | (go_at_call 89; (with_reducible refine (KA _).mono ?_); rintro e W1 ⟨rfl, rfl⟩) | (go_at_call 89; (with_reducible refine (KB _).mono ?_); rintro e W1 ⟨rfl, rfl⟩))
 all_goals
  go_ret
  exact ⟨yR (by unfold bN; (first | rfl | ((try simp only [beq_iff_eq, beq_eq_false_iff_ne, bne_iff_ne, bne_eq_false_iff_eq, ne_eq, decide_eq_true_eq, decide_eq_false_iff_not, Bool.not_eq_true] at *); first | omega | (refine (decide_eq_true ?_).symm; omega) | (refine (decide_eq_false ?_).symm; omega) | (refine decide_eq_decide.2 ?_; omega) | (rw [Bool.eq_iff_iff]; simp only [Bool.or_eq_true, Bool.and_eq_true, beq_iff_eq, bne_iff_ne, ne_eq, decide_eq_true_eq, Bool.not_eq_true', decide_eq_false_iff_not]; omega)))), rfl⟩
theorem fA (y x : En) (w : World) :
 Calls Tryz.prog 52 #[.agg y.leg.toArray, .agg x.leg.toArray] w fun e w' => e = .returned (.bool (VW y x)) ∧ Below w.heap.size w w' := by
 have FO := fun W => GZ y.ty x.ty W
 have FR := fun W => eQ x.ty W
 have HR := hide (show VW y x = (bN y.ty x.ty && (!Td x.ty || decide (y.fx = x.fx))) from rfl)
 rcases h1 : bN y.ty x.ty with _ | _ <;> rcases h2 : Td x.ty with _ | _
 all_goals
  rw [h1] at FO HR
  rw [h2] at FR HR
  clear h1 h2
  have hM := qB w
  go_enter Tryz.func52, Tryz.ntmps52
  go_wp2_with (first | (go_at_call 86; (with_reducible refine (FO _).mono ?_); rintro e W1 ⟨rfl, rfl⟩) | (go_at_call 87; (with_reducible refine (FR _).mono ?_); rintro e W1 ⟨rfl, rfl⟩) | ((with_reducible refine lX ?_); refine mL ?_) | ((with_reducible refine sX ?_); refine mS ?_; clear hM; intro W hM) | ((with_reducible refine bX ?_); refine mB ?_; clear hM; intro g W hM) | ((with_reducible refine zX ?_); refine mB ?_; clear hM; intro g W hM))
  all_goals
   go_ret
   exact ⟨yR (by rw [HR.out]; first | rfl | (simp; done) | (rw [Bool.eq_iff_iff]; simp [dc])), hM.below⟩
theorem Ta (y x : En) (w : World) :
 Calls Tryz.prog 53 #[.agg y.leg.toArray, .agg x.leg.toArray] w fun e w' => e = .returned (.bool (tJ y x)) ∧ Below w.heap.size w w' := by
 have EN := fun W => eO y.ty W
 have HR := hide (show tJ y x = (Tc y.ty && decide (y.fx = x.fx)) from rfl)
 rcases h1 : Tc y.ty with _ | _
 all_goals
  rw [h1] at EN HR
  clear h1
  have hM := qB w
  go_enter Tryz.func53, Tryz.ntmps53
  go_wp2_with (first | (go_at_call 88; (with_reducible refine (EN _).mono ?_); rintro e W1 ⟨rfl, rfl⟩) | ((with_reducible refine lX ?_); refine mL ?_) | ((with_reducible refine sX ?_); refine mS ?_; clear hM; intro W hM) | ((with_reducible refine bX ?_); refine mB ?_; clear hM; intro g W hM) | ((with_reducible refine zX ?_); refine mB ?_; clear hM; intro g W hM))
  all_goals
   go_ret
   exact ⟨yR (by rw [HR.out]; first | rfl | (simp; done) | (rw [Bool.eq_iff_iff]; simp [dc])), hM.below⟩
theorem eR {s : ByteArray} (h : s ≠ ⟨#[]⟩) : (s.toList = [] ↔ False) ∧ (s.toList == []) = false ∧ s.toList.isEmpty = false := by
 have hl : s.toList = [] ↔ False := by
  rw [Lib.toList_data]
  exact ⟨fun e => h (gD e), False.elim⟩
 refine ⟨hl, ?_, ?_⟩
 · rw [beq_eq_false_iff_ne]; exact fun e => hl.1 e
 · cases hq : s.toList with
   | nil => exact (hl.1 hq).elim
   | cons a b => rfl
theorem Nl (a b : Int) : ((a == 0) = true ∧ (b == 0) = true ∧ (a = 0 ∧ b = 0)) ∨ ((a == 0) = false ∧ ¬ (a = 0 ∧ b = 0)) ∨ ((a == 0) = true ∧ (b == 0) = false ∧ ¬ (a = 0 ∧ b = 0)) := by
 rcases h1 : (a == 0) with _ | _
 · exact .inr (.inl ⟨rfl, fun e => by rw [e.1] at h1; cases h1⟩)
 · rcases h2 : (b == 0) with _ | _
   · exact .inr (.inr ⟨rfl, rfl, fun e => by rw [e.2] at h2; cases h2⟩)
   · exact .inl ⟨rfl, rfl, by simpa using h1, by simpa using h2⟩
theorem Tb (fx ct : ByteArray) (a b c d : Int) : ∃ V : Bool, Hid (V = true ↔ ((fx = ⟨#[]⟩ ∧ ¬ (a = 0 ∧ b = 0)) ∨ (ct = ⟨#[]⟩ ∧ ¬ (c = 0 ∧ d = 0)))) ∧ ((fx ≠ ⟨#[]⟩ ∧ ct ≠ ⟨#[]⟩ ∧ V = false) ∨ (fx ≠ ⟨#[]⟩ ∧ ct = ⟨#[]⟩ ∧ (c == 0) = true ∧ (d == 0) = true ∧ V = false) ∨ (fx ≠ ⟨#[]⟩ ∧ ct = ⟨#[]⟩ ∧ (c == 0) = false ∧ V = true) ∨ (fx ≠ ⟨#[]⟩ ∧ ct = ⟨#[]⟩ ∧ (c == 0) = true ∧ (d == 0) = false ∧ V = true) ∨ (fx = ⟨#[]⟩ ∧ (a == 0) = false ∧ V = true) ∨ (fx = ⟨#[]⟩ ∧ (a == 0) = true ∧ (b == 0) = false ∧ V = true) ∨ (fx = ⟨#[]⟩ ∧ (a == 0) = true ∧ (b == 0) = true ∧ ct ≠ ⟨#[]⟩ ∧ V = false) ∨ (fx = ⟨#[]⟩ ∧ (a == 0) = true ∧ (b == 0) = true ∧ ct = ⟨#[]⟩ ∧ (c == 0) = true ∧ (d == 0) = true ∧ V = false) ∨ (fx = ⟨#[]⟩ ∧ (a == 0) = true ∧ (b == 0) = true ∧ ct = ⟨#[]⟩ ∧ (c == 0) = false ∧ V = true) ∨ (fx = ⟨#[]⟩ ∧ (a == 0) = true ∧ (b == 0) = true ∧ ct = ⟨#[]⟩ ∧ (c == 0) = true ∧ (d == 0) = false ∧ V = true)) := by
 by_cases hf : fx = ⟨#[]⟩ <;> by_cases hc : ct = ⟨#[]⟩ <;> rcases Nl a b with ⟨e1, e2, ez⟩ | ⟨e1, ez⟩ | ⟨e1, e2, ez⟩ <;> rcases Nl c d with ⟨m1, m2, mz⟩ | ⟨m1, mz⟩ | ⟨m1, m2, mz⟩
 all_goals first
  | exact ⟨false, hide (by simp [hf, hc, ez, mz]), .inl ⟨hf, hc, rfl⟩⟩
  | exact ⟨false, hide (by simp [hf, hc, ez, mz]), .inr (.inl ⟨hf, hc, m1, m2, rfl⟩)⟩
  | exact ⟨true, hide (by simp [hf, hc, ez, mz]), .inr (.inr (.inl ⟨hf, hc, m1, rfl⟩))⟩
  | exact ⟨true, hide (by simp [hf, hc, ez, mz]), .inr (.inr (.inr (.inl ⟨hf, hc, m1, m2, rfl⟩)))⟩
  | exact ⟨true, hide (by simp [hf, hc, ez, mz]), .inr (.inr (.inr (.inr (.inl ⟨hf, e1, rfl⟩))))⟩
  | exact ⟨true, hide (by simp [hf, hc, ez, mz]), .inr (.inr (.inr (.inr (.inr (.inl ⟨hf, e1, e2, rfl⟩)))))⟩
  | exact ⟨false, hide (by simp [hf, hc, ez, mz]), .inr (.inr (.inr (.inr (.inr (.inr (.inl ⟨hf, e1, e2, hc, rfl⟩))))))⟩
  | exact ⟨false, hide (by simp [hf, hc, ez, mz]), .inr (.inr (.inr (.inr (.inr (.inr (.inr (.inl ⟨hf, e1, e2, hc, m1, m2, rfl⟩)))))))⟩
  | exact ⟨true, hide (by simp [hf, hc, ez, mz]), .inr (.inr (.inr (.inr (.inr (.inr (.inr (.inr (.inl ⟨hf, e1, e2, hc, m1, rfl⟩))))))))⟩
  | exact ⟨true, hide (by simp [hf, hc, ez, mz]), .inr (.inr (.inr (.inr (.inr (.inr (.inr (.inr (.inr (⟨hf, e1, e2, hc, m1, m2, rfl⟩)))))))))⟩
set_option maxRecDepth 100000 in
set_option maxHeartbeats 8000000 in
theorem fB (x : En) (hx : pK x) (w : World) (hu : Hid (jq w)) :
 Calls Tryz.prog 50 #[.agg x.cells.toArray] w fun e w' => e = .returned (.int .i64 (vW x)) ∧ Below w.heap.size w w' := by
 have LC := fun W hW => zL x hx.w.leg W hW
 have SE := fun W => BI x.sec W
 have WA := fun W => Pm x.via hx.via W
 have P1 := fun W => qo x.ex x.ey W
 have P2 := fun W => qo x.mx x.my W
 obtain ⟨E0, hE⟩ : ∃ E0, jn x = E0 := ⟨_, rfl⟩
 obtain ⟨R, hR⟩ : ∃ R, vW x = R := ⟨_, rfl⟩
 have HT := hide hR
 unfold vW at hR
 rw [hE] at LC hR
 clear hE
 by_cases hL : E0 = 0
 rotate_left 1
 · rw [if_pos hL] at hR
   subst hR
   have hne : (E0 != 0) = true := by simpa using hL
   clear hL
   have hM := qB w
   go_enter Tryz.func50, Tryz.ntmps50
   go_wp2_with (first | (go_at_call 54; (refine (LC _ (hide (qD hM hu.out))).mono ?_); rintro e W1 ⟨rfl, hb⟩; replace hM := qp hM hb; clear hb) | (go_at_call 84; (with_reducible refine (SE _).mono ?_); rintro e W1 ⟨rfl, rfl⟩) | (go_at_call 85; (with_reducible refine (WA _).mono ?_); rintro e W1 ⟨rfl, hq⟩; replace hM := js hM hq; clear hq) | (go_at_call 16; (with_reducible refine cb hM (P1 _) ?_); clear hM; intro W1 hM) | (go_at_call 16; (with_reducible refine cb hM (P2 _) ?_); clear hM; intro W1 hM) | ((with_reducible refine lX ?_); refine mL ?_) | ((with_reducible refine sX ?_); refine mS ?_; clear hM; intro W hM) | ((with_reducible refine bX ?_); refine mB ?_; clear hM; intro g W hM) | ((with_reducible refine zX ?_); refine mB ?_; clear hM; intro g W hM))
   all_goals first
    | (go_ret; exact ⟨qL HT.out.symm, hM.below⟩; done)
    | (exfalso; simp_all; done)
 subst hL
 rw [if_neg (by simp)] at hR
 by_cases hs : x.sec < 1 ∨ x.sec > 5
 · rw [if_pos hs] at hR
   subst hR
   rw [decide_eq_false (by omega)] at SE
   clear hs
   have hM := qB w
   go_enter Tryz.func50, Tryz.ntmps50
   go_wp2_with (first | (go_at_call 54; (refine (LC _ (hide (qD hM hu.out))).mono ?_); rintro e W1 ⟨rfl, hb⟩; replace hM := qp hM hb; clear hb) | (go_at_call 84; (with_reducible refine (SE _).mono ?_); rintro e W1 ⟨rfl, rfl⟩) | (go_at_call 85; (with_reducible refine (WA _).mono ?_); rintro e W1 ⟨rfl, hq⟩; replace hM := js hM hq; clear hq) | (go_at_call 16; (with_reducible refine cb hM (P1 _) ?_); clear hM; intro W1 hM) | (go_at_call 16; (with_reducible refine cb hM (P2 _) ?_); clear hM; intro W1 hM) | ((with_reducible refine lX ?_); refine mL ?_) | ((with_reducible refine sX ?_); refine mS ?_; clear hM; intro W hM) | ((with_reducible refine bX ?_); refine mB ?_; clear hM; intro g W hM) | ((with_reducible refine zX ?_); refine mB ?_; clear hM; intro g W hM))
   all_goals first
    | (go_ret; exact ⟨qL HT.out.symm, hM.below⟩; done)
    | (exfalso; simp_all; done)
 rw [if_neg hs] at hR
 rw [decide_eq_true (by omega)] at SE
 clear hs
 rcases hw : ig x.via with _ | _
 · rw [hw, if_pos rfl] at hR
   rw [hw] at WA
   subst hR
   clear hw
   have hM := qB w
   go_enter Tryz.func50, Tryz.ntmps50
   go_wp2_with (first | (go_at_call 54; (refine (LC _ (hide (qD hM hu.out))).mono ?_); rintro e W1 ⟨rfl, hb⟩; replace hM := qp hM hb; clear hb) | (go_at_call 84; (with_reducible refine (SE _).mono ?_); rintro e W1 ⟨rfl, rfl⟩) | (go_at_call 85; (with_reducible refine (WA _).mono ?_); rintro e W1 ⟨rfl, hq⟩; replace hM := js hM hq; clear hq) | (go_at_call 16; (with_reducible refine cb hM (P1 _) ?_); clear hM; intro W1 hM) | (go_at_call 16; (with_reducible refine cb hM (P2 _) ?_); clear hM; intro W1 hM) | ((with_reducible refine lX ?_); refine mL ?_) | ((with_reducible refine sX ?_); refine mS ?_; clear hM; intro W hM) | ((with_reducible refine bX ?_); refine mB ?_; clear hM; intro g W hM) | ((with_reducible refine zX ?_); refine mB ?_; clear hM; intro g W hM))
   all_goals first
    | (go_ret; exact ⟨qL HT.out.symm, hM.below⟩; done)
    | (exfalso; simp_all; done)
 rw [hw, if_neg (by simp)] at hR
 rw [hw] at WA
 clear hw
 rcases v1 : qf x.ex x.ey with _ | _
 · rw [v1, if_pos (by simp)] at hR
   rw [v1] at P1
   subst hR
   clear v1
   have hM := qB w
   go_enter Tryz.func50, Tryz.ntmps50
   go_wp2_with (first | (go_at_call 54; (refine (LC _ (hide (qD hM hu.out))).mono ?_); rintro e W1 ⟨rfl, hb⟩; replace hM := qp hM hb; clear hb) | (go_at_call 84; (with_reducible refine (SE _).mono ?_); rintro e W1 ⟨rfl, rfl⟩) | (go_at_call 85; (with_reducible refine (WA _).mono ?_); rintro e W1 ⟨rfl, hq⟩; replace hM := js hM hq; clear hq) | (go_at_call 16; (with_reducible refine cb hM (P1 _) ?_); clear hM; intro W1 hM) | (go_at_call 16; (with_reducible refine cb hM (P2 _) ?_); clear hM; intro W1 hM) | ((with_reducible refine lX ?_); refine mL ?_) | ((with_reducible refine sX ?_); refine mS ?_; clear hM; intro W hM) | ((with_reducible refine bX ?_); refine mB ?_; clear hM; intro g W hM) | ((with_reducible refine zX ?_); refine mB ?_; clear hM; intro g W hM))
   all_goals first
    | (go_ret; exact ⟨qL HT.out.symm, hM.below⟩; done)
    | (exfalso; simp_all; done)
 rcases v2 : qf x.mx x.my with _ | _
 · rw [v1, v2, if_pos (by simp)] at hR
   rw [v1] at P1
   rw [v2] at P2
   subst hR
   clear v1 v2
   have hM := qB w
   go_enter Tryz.func50, Tryz.ntmps50
   go_wp2_with (first | (go_at_call 54; (refine (LC _ (hide (qD hM hu.out))).mono ?_); rintro e W1 ⟨rfl, hb⟩; replace hM := qp hM hb; clear hb) | (go_at_call 84; (with_reducible refine (SE _).mono ?_); rintro e W1 ⟨rfl, rfl⟩) | (go_at_call 85; (with_reducible refine (WA _).mono ?_); rintro e W1 ⟨rfl, hq⟩; replace hM := js hM hq; clear hq) | (go_at_call 16; (with_reducible refine cb hM (P1 _) ?_); clear hM; intro W1 hM) | (go_at_call 16; (with_reducible refine cb hM (P2 _) ?_); clear hM; intro W1 hM) | ((with_reducible refine lX ?_); refine mL ?_) | ((with_reducible refine sX ?_); refine mS ?_; clear hM; intro W hM) | ((with_reducible refine bX ?_); refine mB ?_; clear hM; intro g W hM) | ((with_reducible refine zX ?_); refine mB ?_; clear hM; intro g W hM))
   all_goals first
    | (go_ret; exact ⟨qL HT.out.symm, hM.below⟩; done)
    | (exfalso; simp_all; done)
 rw [v1, v2, if_neg (by simp)] at hR
 rw [v1] at P1
 rw [v2] at P2
 clear v1 v2
 obtain ⟨V, HV, hcs⟩ := Tb x.fx x.ct x.ex x.ey x.mx x.my
 have hM := qB w
 go_enter Tryz.func50, Tryz.ntmps50
 go_upto_region 10 with (first | (go_at_call 54; (refine (LC _ (hide (qD hM hu.out))).mono ?_); rintro e W1 ⟨rfl, hb⟩; replace hM := qp hM hb; clear hb) | (go_at_call 84; (with_reducible refine (SE _).mono ?_); rintro e W1 ⟨rfl, rfl⟩) | (go_at_call 85; (with_reducible refine (WA _).mono ?_); rintro e W1 ⟨rfl, hq⟩; replace hM := js hM hq; clear hq) | (go_at_call 16; (with_reducible refine cb hM (P1 _) ?_); clear hM; intro W1 hM) | (go_at_call 16; (with_reducible refine cb hM (P2 _) ?_); clear hM; intro W1 hM) | ((with_reducible refine lX ?_); refine mL ?_) | ((with_reducible refine sX ?_); refine mS ?_; clear hM; intro W hM) | ((with_reducible refine bX ?_); refine mB ?_; clear hM; intro g W hM) | ((with_reducible refine zX ?_); refine mB ?_; clear hM; intro g W hM))
 go_cut [31] (fun s wx => s = .bool V ∧ qQ w wx [(g, x.cells, 39)])
 case first =>
  rcases hcs with ⟨hf, hc, rfl⟩ | ⟨hf, hc, m1, m2, rfl⟩ | ⟨hf, hc, m1, rfl⟩ | ⟨hf, hc, m1, m2, rfl⟩ | ⟨hf, e1, rfl⟩ | ⟨hf, e1, e2, rfl⟩ | ⟨hf, e1, e2, hc, rfl⟩ | ⟨hf, e1, e2, hc, m1, m2, rfl⟩ | ⟨hf, e1, e2, hc, m1, rfl⟩ | ⟨hf, e1, e2, hc, m1, m2, rfl⟩
  all_goals (
   try (have hf2 := eR hf; obtain ⟨f1, f2, f3⟩ := hf2; clear hf)
   try (have hc2 := eR hc; obtain ⟨c1, c2, c3⟩ := hc2; clear hc)
   go_wp2_with (first | ((with_reducible refine lX ?_); refine mL ?_))
   all_goals first
    | (go_meet; exact ⟨rfl, hM⟩; done)
    | (exfalso; simp_all; done))
 case rest =>
 clear hM
 obtain ⟨rfl, hM⟩ := hcut
 rcases V with _ | _
 · rw [if_neg (fun h => by have := HV.out.2 h; cases this)] at hR
   subst hR
   go_wp2_with fail
   go_ret
   exact ⟨qL HT.out.symm, hM.below⟩
 · rw [if_pos (HV.out.1 rfl)] at hR
   subst hR
   go_wp2_with fail
   go_ret
   exact ⟨qL HT.out.symm, hM.below⟩
end Go.Proofs.YteanfgobpjdmnaaGreatDoor
