/-
  ResolveMeets: the walk of the law, then the row's step: the given card out of the walk.
-/
import Derived.Test.YtjjdojokkmfbmaaGreatDoorRows
import Derived.Test.YtjjdojokkmfbmaaGreatDoorCards
import Derived.Test.YtjjdojokkmfbmaaGreatDoorMLaid25
import Derived.Test.YtjjdojokkmfbmaaGreatDoorTie
import Derived.SevenTiedAt
import Derived.LaidMore
import Derived.LaidLaws
import Derived.LaidHandle
import Derived.JoinedOf
import Derived.Test.YtjjdojokkmfbmaaGreatDoorMFrame
import Derived.Test.YtjjdojokkmfbmaaGreatDoorMPlanIn
import Derived.Test.YtjjdojokkmfbmaaGreatDoorMAwake25
import Derived.Test.YtjjdojokkmfbmaaGreatDoorMTrks
import Derived.Test.YtjjdojokkmfbmaaGreatDoorMTrkPure
namespace Go.Proofs.YtjjdojokkmfbmaaGreatDoor
open Go.RowKit
set_option linter.unusedVariables false
set_option linter.unusedSimpArgs false
theorem mem_join {w W0 W' : World} {L B : List Box} (h : Mem w W0 L) (k : Mem W0 W' B) : Mem w W' (L ++ B) := by
  have h1 := mem_below h k.below
  refine ⟨h1.below, fun g cs t hm => ?_, ?_⟩
  · rcases List.mem_append.1 hm with hm | hm
    · exact h1.rows g cs t hm
    · have := k.rows g cs t hm
      exact ⟨Nat.le_trans h.below.size this.1, this.2⟩
  · rw [List.map_append, List.nodup_append]
    refine ⟨h.nodup, k.nodup, fun a ha b hb he => ?_⟩
    obtain ⟨⟨x1, x2, x3⟩, hx, e1⟩ := List.mem_map.1 ha
    obtain ⟨⟨y1, y2, y3⟩, hy, e2⟩ := List.mem_map.1 hb
    have q1 := h.lt hx
    have q2 := (k.rows y1 y2 y3 hy).1
    simp only at e1 e2
    omega
theorem ows_form {e : TypeId} {size : Nat} {v : Value} {n : Nat} {xs : List Value} {B : List Box} (h : Ows e size v n xs B) : ∃ S cap, v = .slice S n cap := by
  cases h with
  | nil => exact ⟨none, 0, rfl⟩
  | @row g cap n cur xs _ _ _ _ _ => exact ⟨_, cap, rfl⟩
theorem ows_row {e : TypeId} {size : Nat} {S : Option Addr} {n cap : Nat} {xs : List Value} {B : List Box} (h : Ows e size (.slice S n cap) n xs B) (hn : 0 < n) : ∃ g cur, S = some ⟨g, 0, none⟩ ∧ B = [(g, cur, e)] ∧ cur.take (n * size) = xs := by
  cases h with
  | nil => omega
  | row _ _ _ h4 _ => exact ⟨_, _, rfl, rfl, h4⟩
theorem usualAt_mem {w W : World} {L : List Box} (hM : Mem w W L) (h : usualAt w) : usualAt W := fun i n hi => hM.old (h i n hi)
section
variable {P : Program} {ops : Array Oper} {Q : Exit → Act → World → Prop} {a : Act} {w W : World} {L : List Box} {rest : List Oper} {o : Oper}
/-- a load of a struct from a box whose cells are known in part -/
theorem mr_load {ty : TypeId} {x : Operand} {g off : Nat} (hM : Mem w W L) (ho : o.op = .load ty x) (hx : a.eval x = .pointer (some ⟨g, off, none⟩)) (hw : Region.wanted o (yielded ops a.tmps) = true) {cs : List Value} {T : TypeId} (hl : Lk L g cs T) (hg : ∀ w, (isAgg ty).run P w = .ok true w)
    {C : List Value} (hC : ∀ (j : Nat) (v : Value), C[j]? = some v → cs[off + j]? = some v) (hz : ∀ w, (sizeOf ty).run P w = .ok C.length w)
    (h : wpList P ops Q rest (a.put o.dst (.agg C.toArray)) W) : wpList P ops Q (o :: rest) a W :=
  wpList_step fun _ hK => by
    rw [if_pos hw]
    unfold Oper.wp execOp
    simp only [ho, hx, Instr.loadAt, Instr.sureAddr, Sem.run_bind, Sem.run_pure, Result.andThen_ok, run_loadVar_mem ty g off C.length C hg (size_of w hz) rfl (fun j v hj => (hM.cell hl _).trans (hC j v hj))]
    exact hK _ _ h
end
theorem pt_cases (a b c d : Int) : ((a == c) = true ∧ (b == d) = true) ∨ ((a == c) = false) ∨ ((a == c) = true ∧ (b == d) = false) := by
  rcases h1 : (a == c) with _ | _
  · exact .inr (.inl rfl)
  · rcases h2 : (b == d) with _ | _
    · exact .inr (.inr ⟨rfl, rfl⟩)
    · exact .inl ⟨rfl, rfl⟩
set_option maxRecDepth 100000 in
set_option maxHeartbeats 8000000 in
theorem resolveMeets_walk {W : World} (pa pb : ByteArray) (S : Option Addr) (l : List En) (cap : Nat) (act : Int) (s0 s1 s2 s3 s4 s5 s6 s7 : Int) (ha : pa.size ≤ maxLen) (hb : pb.size ≤ maxLen) (hact : I64 act) (hp : Hid (entsAt W S l)) (hxs : Hid (∀ (k : Nat) (x : En), l[k]? = some x → EnX x)) (hs0 : I64 s0) (hs1 : I64 s1) (hs2 : I64 s2) (hs3 : I64 s3) (hs4 : I64 s4) (hs5 : I64 s5) (hs6 : I64 s6) (hs7 : I64 s7) (hL : laidMetH Tryz.prog laidL W) (w : World) (hw : w = W := by rfl) :
    Calls Tryz.prog 9 #[.agg #[.string pa, .string pb, .slice S l.length cap, .int .i64 act], .agg #[.int .i64 s0, .int .i64 s1, .int .i64 s2, .int .i64 s3, .int .i64 s4, .int .i64 s5, .int .i64 s6, .int .i64 s7]] w fun e w' => e = .returned (.bool true) ∧ Below w.heap.size w w' := by
  subst hw
  have hu := hide (uses_of hL)
  have hq := hide (usual_of hL)
  clear hL
  have TR := fun W h1 h2 => tracks_any pa pb S l cap act s0 s1 s2 s4 s5 s6 s7 W ha hb h1 hxs hs2 hs6 h2
  obtain ⟨ts, idx, er, hR⟩ : ∃ ts idx er, tracksF pa pb l act s0 s1 s2 s4 s5 s6 s7 = (ts, idx, er) := ⟨_, _, _, rfl⟩
  obtain ⟨E0, hE⟩ : ∃ E0, planF pa pb l act = E0 := ⟨_, rfl⟩
  rw [hR] at TR
  dsimp only at TR
  have FR0 := fun (t : Int) (W : World) => from_any t W
  by_cases he : er = 0
  rotate_left 1
  · have h1 : ts = [] := by
      by_cases h0 : planF pa pb l act = 0
      · have h1 := (tracksF_bad (fx := s0) (fy := s1) (c := s2) (spd := s4) (bank := s5) (oalt := s6) (gr := s7) h0 (by rw [hR]; exact he)).1
        rw [hR] at h1
        exact h1
      · have h1 := tracksF_err (fx := s0) (fy := s1) (c := s2) (spd := s4) (bank := s5) (oalt := s6) (gr := s7) h0
        rw [hR] at h1
        injection h1 with e1 e2
    subst h1
    have hne : (er != 0) = true := by simpa using he
    clear hR hE he
    have hM := mem_nil w
    go_enter Tryz.func9, Tryz.ntmps9
    go_upto_region 0 with (first
        | ((with_reducible refine at_ldx ?_); refine' mg_load1 hM rfl rfl ?_ ?_ ?_ ?_ ?_; rotate_left 3; (· first | exact rfl | (go_simp; done)); (· repeat constructor); (· exact Tryz.isAgg52); (· exact rfl))
        | ((with_reducible refine at_ldx ?_); refine' mg_load1 hM rfl rfl ?_ ?_ ?_ ?_ ?_; rotate_left 3; (· first | exact rfl | (go_simp; done)); (· repeat constructor); (· exact scT rfl); (· exact rfl))
        | ((with_reducible refine at_ldx ?_); refine' mg_load hM rfl rfl ?_ ?_ ?_ ?_ ?_ ?_; rotate_left 4; (· first | exact rfl | (go_simp; done)); (· repeat constructor); (· exact agT rfl); (· exact szT rfl); (· repeat constructor))
        | ((with_reducible refine at_stx ?_); refine' ms_store hM rfl rfl rfl ?_ ?_ ?_ ?_ ?_ ?_ ?_ ?_; rotate_left 6; (· constructor); (· repeat constructor); (· repeat constructor); (· repeat constructor); (· exact szT rfl); (· rfl); (· exact onecells rfl); (clear hM; intro W hM))
        | ((with_reducible refine at_bxx ?_); refine' mp_box hM rfl rfl ?_ ?_; rotate_left 1; (· constructor); (clear hM; intro g W hM))
        | ((with_reducible refine at_alx ?_); refine' mp_alloc hM rfl rfl ?_ rfl ?_; rotate_left 1; (· exact zoT rfl); (clear hM; intro g W hM)))
    go_cut [2, 3] (fun t2 t3 wx => ∃ gP gS, t2 = .pointer (some ⟨gP, 0, none⟩) ∧ t3 = .pointer (some ⟨gS, 0, none⟩) ∧ Mem w wx [(gS, [.int .i64 s0, .int .i64 s1, .int .i64 s2, .int .i64 s3, .int .i64 s4, .int .i64 s5, .int .i64 s6, .int .i64 s7], 31), (gP, [.string pa, .string pb, .slice S l.length cap, .int .i64 act], 54)])
    case first =>
      go_wp2_with (first
        | ((with_reducible refine at_ldx ?_); refine' mg_load1 hM rfl rfl ?_ ?_ ?_ ?_ ?_; rotate_left 3; (· first | exact rfl | (go_simp; done)); (· repeat constructor); (· exact Tryz.isAgg52); (· exact rfl))
        | ((with_reducible refine at_ldx ?_); refine' mg_load1 hM rfl rfl ?_ ?_ ?_ ?_ ?_; rotate_left 3; (· first | exact rfl | (go_simp; done)); (· repeat constructor); (· exact scT rfl); (· exact rfl))
        | ((with_reducible refine at_ldx ?_); refine' mg_load hM rfl rfl ?_ ?_ ?_ ?_ ?_ ?_; rotate_left 4; (· first | exact rfl | (go_simp; done)); (· repeat constructor); (· exact agT rfl); (· exact szT rfl); (· repeat constructor))
        | ((with_reducible refine at_stx ?_); refine' ms_store hM rfl rfl rfl ?_ ?_ ?_ ?_ ?_ ?_ ?_ ?_; rotate_left 6; (· constructor); (· repeat constructor); (· repeat constructor); (· repeat constructor); (· exact szT rfl); (· rfl); (· exact onecells rfl); (clear hM; intro W hM))
        | ((with_reducible refine at_bxx ?_); refine' mp_box hM rfl rfl ?_ ?_; rotate_left 1; (· constructor); (clear hM; intro g W hM))
        | ((with_reducible refine at_alx ?_); refine' mp_alloc hM rfl rfl ?_ rfl ?_; rotate_left 1; (· exact zoT rfl); (clear hM; intro g W hM)))
      all_goals
        go_meet
        exact ⟨_, _, rfl, rfl, hM⟩
    case rest =>
    clear hM
    obtain ⟨gP, gS, rfl, rfl, hM⟩ := hcut
    go_wp2_with (first
      | (go_at_call 11; (with_reducible refine (awake25_any _ (hide (usesAt_mem hM hu.out)) (hide (usualAt_mem hM hq.out))).mono ?_); rintro e W1 ⟨rfl, hb⟩; replace hM := mem_below hM hb; clear hb)
      | (go_at_call 18; (with_reducible refine (TR _ (hide (entsAt_old hM hp.out)) (hide (usesAt_mem hM hu.out))).mono ?_); rintro e W1 ⟨V, B, rfl, hO, hB⟩; replace hM := mem_join hM hB; clear hB; simp only [List.cons_append, List.nil_append] at hM; obtain ⟨SV, capV, hVV⟩ := ows_form hO; subst hVV; have HO := hide hO; clear hO)
      | ((with_reducible refine at_ldx ?_); refine' mg_load1 hM rfl rfl ?_ ?_ ?_ ?_ ?_; rotate_left 3; (· first | exact rfl | (go_simp; done)); (· repeat constructor); (· exact Tryz.isAgg52); (· exact rfl))
      | ((with_reducible refine at_ldx ?_); refine' mg_load1 hM rfl rfl ?_ ?_ ?_ ?_ ?_; rotate_left 3; (· first | exact rfl | (go_simp; done)); (· repeat constructor); (· exact scT rfl); (· exact rfl))
      | ((with_reducible refine at_ldx ?_); refine' mg_load hM rfl rfl ?_ ?_ ?_ ?_ ?_ ?_; rotate_left 4; (· first | exact rfl | (go_simp; done)); (· repeat constructor); (· exact agT rfl); (· exact szT rfl); (· repeat constructor))
      | ((with_reducible refine at_stx ?_); refine' ms_store hM rfl rfl rfl ?_ ?_ ?_ ?_ ?_ ?_ ?_ ?_; rotate_left 6; (· constructor); (· repeat constructor); (· repeat constructor); (· repeat constructor); (· exact szT rfl); (· rfl); (· exact onecells rfl); (clear hM; intro W hM))
      | ((with_reducible refine at_bxx ?_); refine' mp_box hM rfl rfl ?_ ?_; rotate_left 1; (· constructor); (clear hM; intro g W hM))
      | ((with_reducible refine at_alx ?_); refine' mp_alloc hM rfl rfl ?_ rfl ?_; rotate_left 1; (· exact zoT rfl); (clear hM; intro g W hM)))
    all_goals
      go_ret
      exact ⟨rfl, hM.below⟩
  subst he
  have hgood := tracksF_good (pa := pa) (pb := pb) (l := l) (act := act) (fx := s0) (fy := s1) (c := s2) (spd := s4) (bank := s5) (oalt := s6) (gr := s7) (by rw [hR])
  rw [hR] at hgood
  have HMEET : Hid (∀ (i : Nat) (t : Tk), ts[i]? = some t → ∃ (x : En) (j : Nat), t.n = (j : Int) ∧ l[j]? = some x ∧ atOK (pntAt ts s0 s1 i).1 (pntAt ts s0 s1 i).2 x t) := hide (fun i t ht => by
    have h := tracksG_meets (spd := s4) (bank := s5) (oalt := s6) (gr := s7) (l.drop (beginN act)) none (beginN act) s0 s1 s2 s6 (by rw [← hgood]) i t (by rw [← hgood]; exact ht)
    rw [← hgood] at h
    obtain ⟨x, m, h1, h2, h3⟩ := h
    exact ⟨x, beginN act + m, h1, by rw [List.getElem?_drop] at h2; exact h2, h3⟩)
  have ht60 : ts.length ≤ 60 ∧ l.length ≤ 60 := by
    have h := order_len (tracksF_order (pa := pa) (pb := pb) (l := l) (act := act) (fx := s0) (fy := s1) (c := s2) (spd := s4) (bank := s5) (oalt := s6) (gr := s7) (by rw [hR]))
    rw [hR] at h
    have h0 : planF pa pb l act = 0 := by
      by_cases h0 : planF pa pb l act = 0
      · exact h0
      · have h1 := tracksF_err (fx := s0) (fy := s1) (c := s2) (spd := s4) (bank := s5) (oalt := s6) (gr := s7) h0
        rw [hR] at h1
        injection h1 with e1 e2
        injection e2 with e2 e3
        exact absurd e3.symm h0
    have h2 := (plan_ok h0).1
    simp at h
    omega
  obtain ⟨t60, l60⟩ := ht60
  clear hR hE hgood
  have hM := mem_nil w
  go_enter Tryz.func9, Tryz.ntmps9
  go_upto_region 0 with (first
      | ((with_reducible refine at_ldx ?_); refine' mg_load1 hM rfl rfl ?_ ?_ ?_ ?_ ?_; rotate_left 3; (· first | exact rfl | (go_simp; done)); (· repeat constructor); (· exact Tryz.isAgg52); (· exact rfl))
      | ((with_reducible refine at_ldx ?_); refine' mg_load1 hM rfl rfl ?_ ?_ ?_ ?_ ?_; rotate_left 3; (· first | exact rfl | (go_simp; done)); (· repeat constructor); (· exact scT rfl); (· exact rfl))
      | ((with_reducible refine at_ldx ?_); refine' mg_load hM rfl rfl ?_ ?_ ?_ ?_ ?_ ?_; rotate_left 4; (· first | exact rfl | (go_simp; done)); (· repeat constructor); (· exact agT rfl); (· exact szT rfl); (· repeat constructor))
      | ((with_reducible refine at_stx ?_); refine' ms_store hM rfl rfl rfl ?_ ?_ ?_ ?_ ?_ ?_ ?_ ?_; rotate_left 6; (· constructor); (· repeat constructor); (· repeat constructor); (· repeat constructor); (· exact szT rfl); (· rfl); (· exact onecells rfl); (clear hM; intro W hM))
      | ((with_reducible refine at_bxx ?_); refine' mp_box hM rfl rfl ?_ ?_; rotate_left 1; (· constructor); (clear hM; intro g W hM))
      | ((with_reducible refine at_alx ?_); refine' mp_alloc hM rfl rfl ?_ rfl ?_; rotate_left 1; (· exact zoT rfl); (clear hM; intro g W hM)))
  go_cut [2, 3] (fun t2 t3 wx => ∃ gP gS, t2 = .pointer (some ⟨gP, 0, none⟩) ∧ t3 = .pointer (some ⟨gS, 0, none⟩) ∧ Mem w wx [(gS, [.int .i64 s0, .int .i64 s1, .int .i64 s2, .int .i64 s3, .int .i64 s4, .int .i64 s5, .int .i64 s6, .int .i64 s7], 31), (gP, [.string pa, .string pb, .slice S l.length cap, .int .i64 act], 54)])
  case first =>
    go_wp2_with (first
      | ((with_reducible refine at_ldx ?_); refine' mg_load1 hM rfl rfl ?_ ?_ ?_ ?_ ?_; rotate_left 3; (· first | exact rfl | (go_simp; done)); (· repeat constructor); (· exact Tryz.isAgg52); (· exact rfl))
      | ((with_reducible refine at_ldx ?_); refine' mg_load1 hM rfl rfl ?_ ?_ ?_ ?_ ?_; rotate_left 3; (· first | exact rfl | (go_simp; done)); (· repeat constructor); (· exact scT rfl); (· exact rfl))
      | ((with_reducible refine at_ldx ?_); refine' mg_load hM rfl rfl ?_ ?_ ?_ ?_ ?_ ?_; rotate_left 4; (· first | exact rfl | (go_simp; done)); (· repeat constructor); (· exact agT rfl); (· exact szT rfl); (· repeat constructor))
      | ((with_reducible refine at_stx ?_); refine' ms_store hM rfl rfl rfl ?_ ?_ ?_ ?_ ?_ ?_ ?_ ?_; rotate_left 6; (· constructor); (· repeat constructor); (· repeat constructor); (· repeat constructor); (· exact szT rfl); (· rfl); (· exact onecells rfl); (clear hM; intro W hM))
      | ((with_reducible refine at_bxx ?_); refine' mp_box hM rfl rfl ?_ ?_; rotate_left 1; (· constructor); (clear hM; intro g W hM))
      | ((with_reducible refine at_alx ?_); refine' mp_alloc hM rfl rfl ?_ rfl ?_; rotate_left 1; (· exact zoT rfl); (clear hM; intro g W hM)))
    all_goals
      go_meet
      exact ⟨_, _, rfl, rfl, hM⟩
  case rest =>
  clear hM
  obtain ⟨gP, gS, rfl, rfl, hM⟩ := hcut
  go_wp2_with (first
      | (go_at_call 11; (with_reducible refine (awake25_any _ (hide (usesAt_mem hM hu.out)) (hide (usualAt_mem hM hq.out))).mono ?_); rintro e W1 ⟨rfl, hb⟩; replace hM := mem_below hM hb; clear hb)
      | (go_at_call 18; (with_reducible refine (TR _ (hide (entsAt_old hM hp.out)) (hide (usesAt_mem hM hu.out))).mono ?_); rintro e W1 ⟨V, B, rfl, hO, hB⟩; replace hM := mem_join hM hB; clear hB; simp only [List.cons_append, List.nil_append] at hM; obtain ⟨SV, capV, hVV⟩ := ows_form hO; subst hVV; have HO := hide hO; clear hO)
      | ((with_reducible refine at_ldx ?_); refine' mg_load1 hM rfl rfl ?_ ?_ ?_ ?_ ?_; rotate_left 3; (· first | exact rfl | (go_simp; done)); (· repeat constructor); (· exact Tryz.isAgg52); (· exact rfl))
      | ((with_reducible refine at_ldx ?_); refine' mg_load1 hM rfl rfl ?_ ?_ ?_ ?_ ?_; rotate_left 3; (· first | exact rfl | (go_simp; done)); (· repeat constructor); (· exact scT rfl); (· exact rfl))
      | ((with_reducible refine at_ldx ?_); refine' mg_load hM rfl rfl ?_ ?_ ?_ ?_ ?_ ?_; rotate_left 4; (· first | exact rfl | (go_simp; done)); (· repeat constructor); (· exact agT rfl); (· exact szT rfl); (· repeat constructor))
      | ((with_reducible refine at_stx ?_); refine' ms_store hM rfl rfl rfl ?_ ?_ ?_ ?_ ?_ ?_ ?_ ?_; rotate_left 6; (· constructor); (· repeat constructor); (· repeat constructor); (· repeat constructor); (· exact szT rfl); (· rfl); (· exact onecells rfl); (clear hM; intro W hM))
      | ((with_reducible refine at_bxx ?_); refine' mp_box hM rfl rfl ?_ ?_; rotate_left 1; (· constructor); (clear hM; intro g W hM))
      | ((with_reducible refine at_alx ?_); refine' mp_alloc hM rfl rfl ?_ rfl ?_; rotate_left 1; (· exact zoT rfl); (clear hM; intro g W hM)))
  go_loopw [33] (fun a W => ∃ (i : Nat), a = .int .i64 (i : Int) ∧ i ≤ ts.length ∧ Mem w W ((gS, [.int .i64 s0, .int .i64 s1, .int .i64 s2, .int .i64 s3, .int .i64 s4, .int .i64 s5, .int .i64 s6, .int .i64 s7], 31) :: (gP, [.string pa, .string pb, .slice S l.length cap, .int .i64 act], 54) :: B)) (fun a _ => ts.length - (intOf a).toNat)
  case atStart => exact ⟨0, rfl, by omega, hM⟩
  case round =>
    clear hM
    obtain ⟨i, rfl, hil, hM⟩ := hrel
    by_cases hlt : i < ts.length
    · obtain ⟨t, ht⟩ : ∃ t, ts[i]? = some t := ⟨_, List.getElem?_eq_getElem hlt⟩
      obtain ⟨x, j, htn, hx, hat⟩ := HMEET.out i t ht
      obtain ⟨b, o, rfl, hxa⟩ := hp.out j x hx
      obtain ⟨g, cur, rfl, rfl, hcur⟩ := ows_row HO.out (by omega)
      have hct : ∀ (q : Nat) (v : Value), t.cells[q]? = some v → cur[i * 15 + q]? = some v := fun q v hq => row_cell hcur ht (by have := (List.getElem?_eq_some_iff.1 hq).1; simpa [Tk.cells] using this) hq
      have hjl : j < l.length := (List.getElem?_eq_some_iff.1 hx).1
      have hpt : (i = 0 ∧ pntAt ts s0 s1 i = (s0, s1)) ∨ ∃ (i0 : Nat) (u : Tk), i = i0 + 1 ∧ pntAt ts s0 s1 i = (u.bx, u.b_y) ∧ ∀ (q : Nat) (v : Value), [Value.int .i64 u.bx, Value.int .i64 u.b_y][q]? = some v → cur[i0 * 15 + 3 + q]? = some v := by
        rcases Nat.eq_zero_or_pos i with h0 | h0
        · subst h0
          exact .inl ⟨rfl, rfl⟩
        · obtain ⟨i0, rfl⟩ : ∃ i0, i = i0 + 1 := ⟨i - 1, by omega⟩
          obtain ⟨u, hu1⟩ : ∃ u, ts[i0]? = some u := ⟨_, List.getElem?_eq_getElem (by omega)⟩
          refine .inr ⟨i0, u, rfl, ?_, fun q v hq => ?_⟩
          · unfold pntAt
            rw [if_neg (by omega), Nat.add_sub_cancel, hu1]
          · have hq2 : q < 2 := by have := (List.getElem?_eq_some_iff.1 hq).1; simpa using this
            rw [Nat.add_assoc]
            refine row_cell hcur hu1 (by omega) ?_
            obtain rfl | rfl : q = 0 ∨ q = 1 := by omega
            · exact hq
            · exact hq
      obtain ⟨fx, fy, hF⟩ : ∃ fx fy, pntAt ts s0 s1 i = (fx, fy) := ⟨_, _, rfl⟩
      rw [hF] at hat hpt
      dsimp only at hat
      obtain ⟨tk, tax, tay, tbx, tby, tcx, tcy, tr, tf, tsw, tci, tco, tl, tn, tg⟩ := t
      dsimp only at htn
      subst htn
      obtain ⟨a1, a2, a3⟩ := hat
      dsimp only at a1 a2 a3
      have jn : (j : Int) < (l.length : Int) := by omega
      have FR := fun W => FR0 x.ty W
      have HP := hide hpt
      clear hpt hF ht hx hcur FR0 HMEET
      rcases hf : fromB x.ty with _ | _ <;> rcases tg with _ | _ <;> rw [hf] at FR
      all_goals (
        first
          | (obtain ⟨rfl, rfl, rfl, rfl, rfl⟩ := a1 (.inl rfl)
             clear a1 a2 a3 hf HP
             (
               go_wp2_with (first
                   | (go_at_call 21; (with_reducible refine (FR _).mono ?_); rintro e W1 ⟨rfl, rfl⟩)
                   | ((with_reducible refine at_ldx ?_); refine' mr_load hM rfl rfl ?_ ?_ (agT rfl) hct (szT rfl) ?_; (· first | exact rfl | (go_simp; done)); rotate_left 1; (· repeat constructor))
                   | ((with_reducible refine at_ldx ?_); refine mq_old hM rfl (by first | exact rfl | (go_simp; done)) rfl (agT rfl) hxa (szT rfl) ?_)
                   | ((with_reducible refine at_ldx ?_); refine' mg_load1 hM rfl rfl ?_ ?_ ?_ ?_ ?_; rotate_left 3; (· first | exact rfl | (go_simp; done)); (· repeat constructor); (· exact Tryz.isAgg52); (· exact rfl))
                   | ((with_reducible refine at_ldx ?_); refine' mg_load1 hM rfl rfl ?_ ?_ ?_ ?_ ?_; rotate_left 3; (· first | exact rfl | (go_simp; done)); (· repeat constructor); (· exact scT rfl); (· exact rfl))
                   | ((with_reducible refine at_ldx ?_); refine' mg_load hM rfl rfl ?_ ?_ ?_ ?_ ?_ ?_; rotate_left 4; (· first | exact rfl | (go_simp; done)); (· repeat constructor); (· exact agT rfl); (· exact szT rfl); (· repeat constructor))
                   | ((with_reducible refine at_stx ?_); refine' ms_store hM rfl rfl rfl ?_ ?_ ?_ ?_ ?_ ?_ ?_ ?_; rotate_left 6; (· constructor); (· repeat constructor); (· repeat constructor); (· repeat constructor); (· exact szT rfl); (· rfl); (· exact onecells rfl); (clear hM; intro W hM))
                   | ((with_reducible refine at_bxx ?_); refine' mp_box hM rfl rfl ?_ ?_; rotate_left 1; (· constructor); (clear hM; intro g W hM))
                   | ((with_reducible refine at_alx ?_); refine' mp_alloc hM rfl rfl ?_ rfl ?_; rotate_left 1; (· exact zoT rfl); (clear hM; intro g W hM)))
               all_goals
                 go_roundw
                 case rel => exact ⟨i + 1, by go_num, by omega, by first | exact mem_tail (mem_tail hM) | exact mem_tail (mem_tail (mem_tail hM))⟩
                 case measure => simp [intOf]; omega
              ))
          | (by_cases h1 : x.ty = 1
             · obtain ⟨rfl, rfl, rfl, rfl, rfl⟩ := a1 (.inr h1)
               have k1 : (x.ty == 1) = true := by simpa using h1
               clear a1 a2 a3 hf HP h1
               (
                 go_wp2_with (first
                     | (go_at_call 21; (with_reducible refine (FR _).mono ?_); rintro e W1 ⟨rfl, rfl⟩)
                     | ((with_reducible refine at_ldx ?_); refine' mr_load hM rfl rfl ?_ ?_ (agT rfl) hct (szT rfl) ?_; (· first | exact rfl | (go_simp; done)); rotate_left 1; (· repeat constructor))
                     | ((with_reducible refine at_ldx ?_); refine mq_old hM rfl (by first | exact rfl | (go_simp; done)) rfl (agT rfl) hxa (szT rfl) ?_)
                     | ((with_reducible refine at_ldx ?_); refine' mg_load1 hM rfl rfl ?_ ?_ ?_ ?_ ?_; rotate_left 3; (· first | exact rfl | (go_simp; done)); (· repeat constructor); (· exact Tryz.isAgg52); (· exact rfl))
                     | ((with_reducible refine at_ldx ?_); refine' mg_load1 hM rfl rfl ?_ ?_ ?_ ?_ ?_; rotate_left 3; (· first | exact rfl | (go_simp; done)); (· repeat constructor); (· exact scT rfl); (· exact rfl))
                     | ((with_reducible refine at_ldx ?_); refine' mg_load hM rfl rfl ?_ ?_ ?_ ?_ ?_ ?_; rotate_left 4; (· first | exact rfl | (go_simp; done)); (· repeat constructor); (· exact agT rfl); (· exact szT rfl); (· repeat constructor))
                     | ((with_reducible refine at_stx ?_); refine' ms_store hM rfl rfl rfl ?_ ?_ ?_ ?_ ?_ ?_ ?_ ?_; rotate_left 6; (· constructor); (· repeat constructor); (· repeat constructor); (· repeat constructor); (· exact szT rfl); (· rfl); (· exact onecells rfl); (clear hM; intro W hM))
                     | ((with_reducible refine at_bxx ?_); refine' mp_box hM rfl rfl ?_ ?_; rotate_left 1; (· constructor); (clear hM; intro g W hM))
                     | ((with_reducible refine at_alx ?_); refine' mp_alloc hM rfl rfl ?_ rfl ?_; rotate_left 1; (· exact zoT rfl); (clear hM; intro g W hM)))
                 all_goals
                   go_roundw
                   case rel => exact ⟨i + 1, by go_num, by omega, by first | exact mem_tail (mem_tail hM) | exact mem_tail (mem_tail (mem_tail hM))⟩
                   case measure => simp [intOf]; omega
                )
             · have k1 : (x.ty == 1) = false := by simpa using h1
               have hno : ¬ (false = true ∨ x.ty = 1) := fun h => by
                 rcases h with h | h
                 · cases h
                 · exact h1 h
               clear h1 a1
               first
                 | (obtain ⟨rfl, rfl⟩ := a2 hno hf
                    clear a2 a3 hf HP hno
                    (
                      go_wp2_with (first
                          | (go_at_call 21; (with_reducible refine (FR _).mono ?_); rintro e W1 ⟨rfl, rfl⟩)
                          | ((with_reducible refine at_ldx ?_); refine' mr_load hM rfl rfl ?_ ?_ (agT rfl) hct (szT rfl) ?_; (· first | exact rfl | (go_simp; done)); rotate_left 1; (· repeat constructor))
                          | ((with_reducible refine at_ldx ?_); refine mq_old hM rfl (by first | exact rfl | (go_simp; done)) rfl (agT rfl) hxa (szT rfl) ?_)
                          | ((with_reducible refine at_ldx ?_); refine' mg_load1 hM rfl rfl ?_ ?_ ?_ ?_ ?_; rotate_left 3; (· first | exact rfl | (go_simp; done)); (· repeat constructor); (· exact Tryz.isAgg52); (· exact rfl))
                          | ((with_reducible refine at_ldx ?_); refine' mg_load1 hM rfl rfl ?_ ?_ ?_ ?_ ?_; rotate_left 3; (· first | exact rfl | (go_simp; done)); (· repeat constructor); (· exact scT rfl); (· exact rfl))
                          | ((with_reducible refine at_ldx ?_); refine' mg_load hM rfl rfl ?_ ?_ ?_ ?_ ?_ ?_; rotate_left 4; (· first | exact rfl | (go_simp; done)); (· repeat constructor); (· exact agT rfl); (· exact szT rfl); (· repeat constructor))
                          | ((with_reducible refine at_stx ?_); refine' ms_store hM rfl rfl rfl ?_ ?_ ?_ ?_ ?_ ?_ ?_ ?_; rotate_left 6; (· constructor); (· repeat constructor); (· repeat constructor); (· repeat constructor); (· exact szT rfl); (· rfl); (· exact onecells rfl); (clear hM; intro W hM))
                          | ((with_reducible refine at_bxx ?_); refine' mp_box hM rfl rfl ?_ ?_; rotate_left 1; (· constructor); (clear hM; intro g W hM))
                          | ((with_reducible refine at_alx ?_); refine' mp_alloc hM rfl rfl ?_ rfl ?_; rotate_left 1; (· exact zoT rfl); (clear hM; intro g W hM)))
                      all_goals
                        go_roundw
                        case rel => exact ⟨i + 1, by go_num, by omega, by first | exact mem_tail (mem_tail hM) | exact mem_tail (mem_tail (mem_tail hM))⟩
                        case measure => simp [intOf]; omega
                     ))
                 | (have h4 := a3 hno hf
                    clear a2 a3 hf hno
                    by_cases h3 : x.ty = 3
                    · have k3 : (x.ty == 3) = true := by simpa using h3
                      have j3 : (x.ty != 3) = false := by simpa using h3
                      clear h3 h4
                      rcases pt_cases tax tay fx fy with ⟨q1, q2⟩ | q1 | ⟨q1, q2⟩
                      all_goals (
                          rcases HP.out with ⟨rfl, e⟩ | ⟨i0, u, rfl, e, hu3⟩
                          · injection e with e1 e2
                            subst e1 e2
                            clear HP
                            go_wp2_with (first
                                | (go_at_call 21; (with_reducible refine (FR _).mono ?_); rintro e W1 ⟨rfl, rfl⟩)
                                | ((with_reducible refine at_ldx ?_); refine' mr_load hM rfl rfl ?_ ?_ (agT rfl) hct (szT rfl) ?_; (· first | exact rfl | (go_simp; done)); rotate_left 1; (· repeat constructor))
                                | ((with_reducible refine at_ldx ?_); refine mq_old hM rfl (by first | exact rfl | (go_simp; done)) rfl (agT rfl) hxa (szT rfl) ?_)
                                | ((with_reducible refine at_ldx ?_); refine' mg_load1 hM rfl rfl ?_ ?_ ?_ ?_ ?_; rotate_left 3; (· first | exact rfl | (go_simp; done)); (· repeat constructor); (· exact Tryz.isAgg52); (· exact rfl))
                                | ((with_reducible refine at_ldx ?_); refine' mg_load1 hM rfl rfl ?_ ?_ ?_ ?_ ?_; rotate_left 3; (· first | exact rfl | (go_simp; done)); (· repeat constructor); (· exact scT rfl); (· exact rfl))
                                | ((with_reducible refine at_ldx ?_); refine' mg_load hM rfl rfl ?_ ?_ ?_ ?_ ?_ ?_; rotate_left 4; (· first | exact rfl | (go_simp; done)); (· repeat constructor); (· exact agT rfl); (· exact szT rfl); (· repeat constructor))
                                | ((with_reducible refine at_stx ?_); refine' ms_store hM rfl rfl rfl ?_ ?_ ?_ ?_ ?_ ?_ ?_ ?_; rotate_left 6; (· constructor); (· repeat constructor); (· repeat constructor); (· repeat constructor); (· exact szT rfl); (· rfl); (· exact onecells rfl); (clear hM; intro W hM))
                                | ((with_reducible refine at_bxx ?_); refine' mp_box hM rfl rfl ?_ ?_; rotate_left 1; (· constructor); (clear hM; intro g W hM))
                                | ((with_reducible refine at_alx ?_); refine' mp_alloc hM rfl rfl ?_ rfl ?_; rotate_left 1; (· exact zoT rfl); (clear hM; intro g W hM)))
                            all_goals
                              go_roundw
                              case rel => exact ⟨0 + 1, by go_num, by omega, by first | exact mem_tail (mem_tail hM) | exact mem_tail (mem_tail (mem_tail hM))⟩
                              case measure => simp [intOf]; omega
                          · injection e with e1 e2
                            subst e1 e2
                            clear HP
                            have ib : (i0 : Int) ≤ 60 := by omega
                            have iw : IntKind.i64.wrap ((i0 : Int) + 1 - 1) = i0 := by rw [show (i0 : Int) + 1 - 1 = i0 by omega]; exact IntWalk.i64_in _ (by omega)
                            go_wp2_with (first
                                | (go_at_call 21; (with_reducible refine (FR _).mono ?_); rintro e W1 ⟨rfl, rfl⟩)
                                | ((with_reducible refine at_ldx ?_); refine' mr_load hM rfl rfl ?_ ?_ (agT rfl) hct (szT rfl) ?_; (· first | exact rfl | (go_simp; done)); rotate_left 1; (· repeat constructor))
                                | ((with_reducible refine at_ldx ?_); refine mq_old hM rfl (by first | exact rfl | (go_simp; done)) rfl (agT rfl) hxa (szT rfl) ?_)
                                | ((with_reducible refine at_ldx ?_); refine' mr_load hM rfl rfl ?_ ?_ (agT rfl) hu3 (szT rfl) ?_; (· first | exact rfl | (go_simp; done)); rotate_left 1; (· repeat constructor))
                                | ((with_reducible refine at_ldx ?_); refine' mg_load1 hM rfl rfl ?_ ?_ ?_ ?_ ?_; rotate_left 3; (· first | exact rfl | (go_simp; done)); (· repeat constructor); (· exact Tryz.isAgg52); (· exact rfl))
                                | ((with_reducible refine at_ldx ?_); refine' mg_load1 hM rfl rfl ?_ ?_ ?_ ?_ ?_; rotate_left 3; (· first | exact rfl | (go_simp; done)); (· repeat constructor); (· exact scT rfl); (· exact rfl))
                                | ((with_reducible refine at_ldx ?_); refine' mg_load hM rfl rfl ?_ ?_ ?_ ?_ ?_ ?_; rotate_left 4; (· first | exact rfl | (go_simp; done)); (· repeat constructor); (· exact agT rfl); (· exact szT rfl); (· repeat constructor))
                                | ((with_reducible refine at_stx ?_); refine' ms_store hM rfl rfl rfl ?_ ?_ ?_ ?_ ?_ ?_ ?_ ?_; rotate_left 6; (· constructor); (· repeat constructor); (· repeat constructor); (· repeat constructor); (· exact szT rfl); (· rfl); (· exact onecells rfl); (clear hM; intro W hM))
                                | ((with_reducible refine at_bxx ?_); refine' mp_box hM rfl rfl ?_ ?_; rotate_left 1; (· constructor); (clear hM; intro g W hM))
                                | ((with_reducible refine at_alx ?_); refine' mp_alloc hM rfl rfl ?_ rfl ?_; rotate_left 1; (· exact zoT rfl); (clear hM; intro g W hM)))
                            all_goals
                              go_roundw
                              case rel => exact ⟨i0 + 1 + 1, by go_num, by omega, by first | exact mem_tail (mem_tail hM) | exact mem_tail (mem_tail (mem_tail hM))⟩
                              case measure => simp [intOf]; omega
                        )
                    · have k3 : (x.ty == 3) = false := by simpa using h3
                      have j3 : (x.ty != 3) = true := by simpa using h3
                      obtain ⟨rfl, rfl⟩ := h4.resolve_left h3
                      clear h3 h4
                      (
                         rcases HP.out with ⟨rfl, e⟩ | ⟨i0, u, rfl, e, hu3⟩
                         · injection e with e1 e2
                           subst e1 e2
                           clear HP
                           go_wp2_with (first
                               | (go_at_call 21; (with_reducible refine (FR _).mono ?_); rintro e W1 ⟨rfl, rfl⟩)
                               | ((with_reducible refine at_ldx ?_); refine' mr_load hM rfl rfl ?_ ?_ (agT rfl) hct (szT rfl) ?_; (· first | exact rfl | (go_simp; done)); rotate_left 1; (· repeat constructor))
                               | ((with_reducible refine at_ldx ?_); refine mq_old hM rfl (by first | exact rfl | (go_simp; done)) rfl (agT rfl) hxa (szT rfl) ?_)
                               | ((with_reducible refine at_ldx ?_); refine' mg_load1 hM rfl rfl ?_ ?_ ?_ ?_ ?_; rotate_left 3; (· first | exact rfl | (go_simp; done)); (· repeat constructor); (· exact Tryz.isAgg52); (· exact rfl))
                               | ((with_reducible refine at_ldx ?_); refine' mg_load1 hM rfl rfl ?_ ?_ ?_ ?_ ?_; rotate_left 3; (· first | exact rfl | (go_simp; done)); (· repeat constructor); (· exact scT rfl); (· exact rfl))
                               | ((with_reducible refine at_ldx ?_); refine' mg_load hM rfl rfl ?_ ?_ ?_ ?_ ?_ ?_; rotate_left 4; (· first | exact rfl | (go_simp; done)); (· repeat constructor); (· exact agT rfl); (· exact szT rfl); (· repeat constructor))
                               | ((with_reducible refine at_stx ?_); refine' ms_store hM rfl rfl rfl ?_ ?_ ?_ ?_ ?_ ?_ ?_ ?_; rotate_left 6; (· constructor); (· repeat constructor); (· repeat constructor); (· repeat constructor); (· exact szT rfl); (· rfl); (· exact onecells rfl); (clear hM; intro W hM))
                               | ((with_reducible refine at_bxx ?_); refine' mp_box hM rfl rfl ?_ ?_; rotate_left 1; (· constructor); (clear hM; intro g W hM))
                               | ((with_reducible refine at_alx ?_); refine' mp_alloc hM rfl rfl ?_ rfl ?_; rotate_left 1; (· exact zoT rfl); (clear hM; intro g W hM)))
                           all_goals
                             go_roundw
                             case rel => exact ⟨0 + 1, by go_num, by omega, by first | exact mem_tail (mem_tail hM) | exact mem_tail (mem_tail (mem_tail hM))⟩
                             case measure => simp [intOf]; omega
                         · injection e with e1 e2
                           subst e1 e2
                           clear HP
                           have ib : (i0 : Int) ≤ 60 := by omega
                           have iw : IntKind.i64.wrap ((i0 : Int) + 1 - 1) = i0 := by rw [show (i0 : Int) + 1 - 1 = i0 by omega]; exact IntWalk.i64_in _ (by omega)
                           go_wp2_with (first
                               | (go_at_call 21; (with_reducible refine (FR _).mono ?_); rintro e W1 ⟨rfl, rfl⟩)
                               | ((with_reducible refine at_ldx ?_); refine' mr_load hM rfl rfl ?_ ?_ (agT rfl) hct (szT rfl) ?_; (· first | exact rfl | (go_simp; done)); rotate_left 1; (· repeat constructor))
                               | ((with_reducible refine at_ldx ?_); refine mq_old hM rfl (by first | exact rfl | (go_simp; done)) rfl (agT rfl) hxa (szT rfl) ?_)
                               | ((with_reducible refine at_ldx ?_); refine' mr_load hM rfl rfl ?_ ?_ (agT rfl) hu3 (szT rfl) ?_; (· first | exact rfl | (go_simp; done)); rotate_left 1; (· repeat constructor))
                               | ((with_reducible refine at_ldx ?_); refine' mg_load1 hM rfl rfl ?_ ?_ ?_ ?_ ?_; rotate_left 3; (· first | exact rfl | (go_simp; done)); (· repeat constructor); (· exact Tryz.isAgg52); (· exact rfl))
                               | ((with_reducible refine at_ldx ?_); refine' mg_load1 hM rfl rfl ?_ ?_ ?_ ?_ ?_; rotate_left 3; (· first | exact rfl | (go_simp; done)); (· repeat constructor); (· exact scT rfl); (· exact rfl))
                               | ((with_reducible refine at_ldx ?_); refine' mg_load hM rfl rfl ?_ ?_ ?_ ?_ ?_ ?_; rotate_left 4; (· first | exact rfl | (go_simp; done)); (· repeat constructor); (· exact agT rfl); (· exact szT rfl); (· repeat constructor))
                               | ((with_reducible refine at_stx ?_); refine' ms_store hM rfl rfl rfl ?_ ?_ ?_ ?_ ?_ ?_ ?_ ?_; rotate_left 6; (· constructor); (· repeat constructor); (· repeat constructor); (· repeat constructor); (· exact szT rfl); (· rfl); (· exact onecells rfl); (clear hM; intro W hM))
                               | ((with_reducible refine at_bxx ?_); refine' mp_box hM rfl rfl ?_ ?_; rotate_left 1; (· constructor); (clear hM; intro g W hM))
                               | ((with_reducible refine at_alx ?_); refine' mp_alloc hM rfl rfl ?_ rfl ?_; rotate_left 1; (· exact zoT rfl); (clear hM; intro g W hM)))
                           all_goals
                             go_roundw
                             case rel => exact ⟨i0 + 1 + 1, by go_num, by omega, by first | exact mem_tail (mem_tail hM) | exact mem_tail (mem_tail (mem_tail hM))⟩
                             case measure => simp [intOf]; omega
                       ))))
    · go_wp2_with (first
      | ((with_reducible refine at_ldx ?_); refine' mg_load1 hM rfl rfl ?_ ?_ ?_ ?_ ?_; rotate_left 3; (· first | exact rfl | (go_simp; done)); (· repeat constructor); (· exact Tryz.isAgg52); (· exact rfl))
      | ((with_reducible refine at_ldx ?_); refine' mg_load1 hM rfl rfl ?_ ?_ ?_ ?_ ?_; rotate_left 3; (· first | exact rfl | (go_simp; done)); (· repeat constructor); (· exact scT rfl); (· exact rfl))
      | ((with_reducible refine at_ldx ?_); refine' mg_load hM rfl rfl ?_ ?_ ?_ ?_ ?_ ?_; rotate_left 4; (· first | exact rfl | (go_simp; done)); (· repeat constructor); (· exact agT rfl); (· exact szT rfl); (· repeat constructor))
      | ((with_reducible refine at_stx ?_); refine' ms_store hM rfl rfl rfl ?_ ?_ ?_ ?_ ?_ ?_ ?_ ?_; rotate_left 6; (· constructor); (· repeat constructor); (· repeat constructor); (· repeat constructor); (· exact szT rfl); (· rfl); (· exact onecells rfl); (clear hM; intro W hM))
      | ((with_reducible refine at_bxx ?_); refine' mp_box hM rfl rfl ?_ ?_; rotate_left 1; (· constructor); (clear hM; intro g W hM))
      | ((with_reducible refine at_alx ?_); refine' mp_alloc hM rfl rfl ?_ rfl ?_; rotate_left 1; (· exact zoT rfl); (clear hM; intro g W hM)))
      go_ret
      exact ⟨rfl, hM.below⟩
end Go.Proofs.YtjjdojokkmfbmaaGreatDoor
namespace Go.Proofs.YtjjdojokkmfbmaaGreatDoor.resolveMeets
open Go.ChangeShapes Go.WideShapes Go.ChangeAt Go.RowKit
set_option linter.unusedVariables false

theorem own : ownKnob Tryz.prog.godebug = none := by kernel_rfl
theorem laidOut : laidOutB Tryz.prog = true := pf_laid
theorem typed : (Tryz.f9.params.toList.all fun t => Tryz.prog.readableRec t && decide (t < Tryz.prog.types.size)) = true := by kernel_rfl
theorem typed' : ∀ t ∈ Tryz.f9.params.toList, Tryz.prog.readableRec t = true ∧ t < Tryz.prog.types.size := by
  intro t ht
  have h := List.all_eq_true.1 typed t ht
  simpa using h
theorem ct54 : Tryz.prog.cellTypes Tryz.prog.depth 54 = some [9, 9, 52, 3] := by kernel_rfl
theorem cn54 : Tryz.prog.cellsOf 54 = ([9, 9, 52, 3] : List TypeId).length := by kernel_rfl
theorem ct31 : Tryz.prog.cellTypes Tryz.prog.depth 31 = some (List.replicate 8 2) := by kernel_rfl
theorem cn31 : Tryz.prog.cellsOf 31 = (List.replicate 8 2).length := by kernel_rfl
set_option maxRecDepth 100000 in
theorem lifted (os : Os) (started : os.Started) (H : Type) (enc : TypeId × Value → H) :
    ReturnsInHanded {} Tryz.checked os 9 .any (fun w args => (Rows.resolveMeetsSpec.pre enc Tryz.prog Tryz.f9 Rows.resolveMeetsRow.domain false w args ∧ laidMetH Tryz.prog laidL w) ∧ sizedMet enc Tryz.prog Tryz.f9 (OpenSpec.ofChange Rows.resolveMeetsSpec) false w args) (Rows.resolveMeetsSpec.post enc Tryz.prog Tryz.f9 false true false false) := by
  refine returnsInHanded_of_change_and (C := Tryz.checked) (X := fun w _ => laidMetH Tryz.prog laidL w) (fun _ _ _ hh h => h.of_heap hh) own started (by kernel_rfl) Tryz.func9
    (ChangeSpec.witness_shaped (enc := enc) (C := Tryz.checked) (os := os) (X := fun w _ => laidMetH Tryz.prog laidL w) false (World.doorLaid Tryz.prog 400 os) #[.agg #[.string ⟨#[]⟩, .string ⟨#[]⟩, .slice none 0 0, .int .i64 0], .agg #[.int .i64 0, .int .i64 0, .int .i64 0, .int .i64 0, .int .i64 0, .int .i64 0, .int .i64 0, .int .i64 0]] 8 rfl (World.shaped_of_RefB (by kernel_rfl) (by kernel_rfl)) (by kernel_rfl) (by kernel_rfl) (by kernel_rfl) (door_met os _)) ?_
  intro W base args ds gs before hval0 hW hcnd _ hL _
  have hval : ∀ (j : Nat) t v, Tryz.f9.params[j]? = some t → args[j]? = some v → Value.okWide Tryz.prog W .any base t v := hval0
  have hW' := hW
  obtain ⟨p, q, hA0, hV, rfl, hfz, hnd⟩ := hW
  have hlen := trodAll_length _ _ _ _ hA0
  rw [Tryz.params9] at hval hlen
  obtain ⟨v0, v1, rfl⟩ := arr2 hlen.1
  obtain ⟨d0, d1, rfl⟩ := list2 hlen.2
  obtain ⟨lp, rfl, ep, hlp⟩ := ok_agg (Or.inl ⟨_, Tryz.underlying54⟩) ct54 cn54 (hval 0 54 v0 rfl rfl)
  obtain ⟨pc0, pc1, pc2, pc3, rfl⟩ := list4 (ep.trans (by rfl))
  have hA' := hA0
  rw [Tryz.params9] at hA'
  obtain ⟨_, _, hTp, _⟩ := hA'
  obtain ⟨pA, pB, pS, pl, pcap, pact, hpv, hpA, hpB, hpn, hpact, hpp, hpx⟩ := plan_in hTp ⟨pc0, pc1, pc2, pc3, rfl⟩
  obtain ⟨rfl, rfl, rfl, rfl⟩ : pc0 = .string pA ∧ pc1 = .string pB ∧ pc2 = .slice pS pl.length pcap ∧ pc3 = .int .i64 pact := by simpa using hpv
  obtain ⟨ls, rfl, es, hls⟩ := ok_ints (Or.inl ⟨_, Tryz.underlying31⟩) ct31 cn31 (fun u hu => by rw [List.eq_of_mem_replicate hu]; exact Tryz.underlying2) (hval 1 31 v1 rfl rfl)
  obtain ⟨s0, s1, s2, s3, s4, s5, s6, s7, rfl⟩ := list8 (es.trans (by simp))
  have hs0 : I64 s0 := hls _ (by simp)
  have hs1 : I64 s1 := hls _ (by simp)
  have hs2 : I64 s2 := hls _ (by simp)
  have hs3 : I64 s3 := hls _ (by simp)
  have hs4 : I64 s4 := hls _ (by simp)
  have hs5 : I64 s5 := hls _ (by simp)
  have hs6 : I64 s6 := hls _ (by simp)
  have hs7 : I64 s7 := hls _ (by simp)
  refine (resolveMeets_walk pA pB pS pl pcap pact s0 s1 s2 s3 s4 s5 s6 s7 hpA hpB hpact (hide hpp) (hide hpx) hs0 hs1 hs2 hs3 hs4 hs5 hs6 hs7 hL W).mono fun e W' ⟨he, hb⟩ => ?_
  subst he
  exact ⟨_, rfl, law_post (f := Tryz.f9) (s := Rows.resolveMeetsSpec) (tb := 4) laidOut typed' rfl (by kernel_rfl) Tryz.underlying4 hW' ⟨rfl, rfl, rfl⟩ hb⟩

theorem k0 : (Rows.resolveMeetsRow.wf (OpenSpec.ofChange Rows.resolveMeetsSpec)) = true := by kernel_rfl
theorem k3 : (Tryz.f9.params.all (Tryz.prog.readableRec ·)) = true := by kernel_rfl
theorem k4 : (namedTie Tryz.prog Rows.resolveMeetsRow.named Rows.resolveMeetsSpec.vars) = true := by kernel_rfl
theorem k5 : (Rows.resolveMeetsRow.stops == []) = true := by kernel_rfl
theorem k7 : (Rows.resolveMeetsRow.knobs == []) = true := by kernel_rfl
theorem k9 : (Rows.resolveMeetsRow.inPlace == Tryz.prog.inPlace 9) = true := by kernel_rfl
theorem k10 : (Rows.resolveMeetsRow.unfollowed == Tryz.prog.unfollowed 9) = true := by kernel_rfl
theorem k11 : (Rows.resolveMeetsRow.recurses == Tryz.prog.recurses 9) = true := by kernel_rfl
theorem k12 : (Rows.resolveMeetsRow.named == Tryz.prog.varsNamed 9) = true := by kernel_rfl
theorem k13 : (Rows.resolveMeetsRow.maps == (Tryz.f9.params.toList ++ Rows.resolveMeetsSpec.plain.varTypes Tryz.prog).any (Tryz.prog.mapsRec ·)) = true := by kernel_rfl
theorem k14 : (Rows.resolveMeetsRow.ifaces == (Tryz.f9.params.toList ++ Rows.resolveMeetsSpec.plain.varTypes Tryz.prog).any (Tryz.prog.ifacesRec ·)) = true := by kernel_rfl
theorem k15 : (Rows.resolveMeetsRow.mapsOut == Tryz.prog.mapsAmong Tryz.f9.resultTypes.toList) = true := by kernel_rfl
theorem k16 : (Rows.resolveMeetsRow.loops == (Tryz.f9.params.toList ++ Rows.resolveMeetsSpec.plain.varTypes Tryz.prog).any (Tryz.prog.loopsFrom ·)) = true := by kernel_rfl
theorem k17 : (Rows.resolveMeetsRow.wideKeys == (Tryz.f9.params.toList ++ Rows.resolveMeetsSpec.plain.varTypes Tryz.prog ++ Tryz.f9.resultTypes.toList).any (Tryz.prog.wideKeysFrom ·)) = true := by kernel_rfl
theorem k18 : (Rows.resolveMeetsSpec.vars.all (Tryz.prog.varReadable ·)) = true := by kernel_rfl
theorem k19 : (Tryz.f9.resultTypes.all (fun t => Tryz.prog.readableRec t && decide (t < Tryz.prog.types.size))) = true := by kernel_rfl
theorem k20 : (Rows.resolveMeetsRow.ifacesOut == Tryz.f9.resultTypes.toList.any (Tryz.prog.ifacesRec ·)) = true := by kernel_rfl
theorem k21 : (Rows.resolveMeetsRow.loopsOut == Tryz.f9.resultTypes.toList.any (Tryz.prog.loopsFrom ·)) = true := by kernel_rfl
theorem k22 : (Rows.resolveMeetsRow.plainKeys == Tryz.prog.plainKeys) = true := by kernel_rfl
theorem k23 : (Rows.resolveMeetsRow.shortTexts.isNone) = true := by kernel_rfl
theorem k26 : (Rows.resolveMeetsRow.lifted == Tryz.prog.liftsFinal) = true := by rw [pf_lifts]; rfl
theorem k27 : (Tryz.prog.make == some Rows.resolveMeetsRow.make) = true := by rw [pf_make]; rfl
theorem k28 : (Rows.resolveMeetsRow.kinds == (if Rows.resolveMeetsRow.domain.isEmpty then [] else Tryz.f9.params.toList.map fun t => match Tryz.prog.underlying t with | some (.int k) => some k | _ => none)) = true := by kernel_rfl
theorem k29 : (Rows.resolveMeetsRow.pinned == Rows.resolveMeetsRow.pinnedBy) = true := by kernel_rfl
theorem k30 : (Rows.resolveMeetsRow.veiled == (Tryz.f9.params.toList ++ Rows.resolveMeetsSpec.plain.varTypes Tryz.prog ++ Tryz.f9.resultTypes.toList).any (Tryz.prog.veiledRec ·)) = true := by kernel_rfl
theorem k31 : (Rows.resolveMeetsRow.veiledFits Tryz.prog Tryz.f9.params.toList (Tryz.f9.params.toList ++ Rows.resolveMeetsSpec.plain.varTypes Tryz.prog ++ Tryz.f9.resultTypes.toList)) = true := by kernel_rfl
set_option maxRecDepth 100000 in
theorem closed : joinedFacts Tryz.prog 9 Tryz.f9 Rows.resolveMeetsSpec Rows.resolveMeetsRow = true := (band (band (band (band (band (band (band (band (band (band (band (band (band (band (band (band (band (band (band (band (band (band (band (band (band (band (band (band (band (band (band k0 pf_laid) pf_maps) k3) k4) k5) pf_stops) k7) pf_knobs) k9) k10) k11) k12) k13) k14) k15) k16) k17) k18) k19) k20) k21) k22) k23) pf_heard) pf_enter) k26) k27) k28) k29) k30) k31)
theorem byName : Tryz.prog.funcNamed Rows.resolveMeetsRow.func = some 9 := by kernel_rfl
theorem inst : Tryz.f9.isInstance Tryz.prog Rows.resolveMeetsRow.origin Rows.resolveMeetsRow.targs := of_decide_eq_true (by kernel_rfl)
theorem over : Rows.resolveMeetsRow.holds Tryz.pinned (OpenSpec.ofChange Rows.resolveMeetsSpec) :=
  OpenClaim.holds_of_wide 9 Tryz.f9 rfl rfl rfl rfl rfl rfl rfl ⟨rfl, rfl, rfl, rfl, rfl⟩ rfl rfl rfl rfl rfl byName Tryz.func9 closed
    inst (by unfold Func.isWrapper; rw [if_neg (of_decide_eq_false (by kernel_rfl))]; exact ⟨rfl, rfl⟩)
    (fun os started H enc _ => lifted os started H enc)

/-- The given statement: the tied card. -/
theorem proved : Rows.ResolveMeetsCardSaid :=
  Claim7.holds_tied_plain_at .later [] [.data, .data] true Rows.resolveMeetsCard.stood.harness false
    over (fun _ h => by cases h) (by kernel_rfl) (fun _ h => by cases h) resolveMeets_row_tie rfl ⟨rfl, rfl⟩ (by kernel_rfl) rfl
    (fun f fn hf hfn => by
      obtain rfl : f = 9 := Option.some.inj ((show Tryz.prog.funcNamed "flightdeck/flightdecklaw25.ResolveMeets" = some 9 by kernel_rfl).symm.trans hf) |>.symm
      obtain rfl : fn = Tryz.f9 := (Option.some.inj (Tryz.func9.symm.trans hfn)).symm
      exact ⟨by kernel_rfl, fun j t ht => by
        have hm : t ∈ Tryz.f9.params.toList := by simpa using Array.mem_of_getElem? ht
        have hall : (Tryz.f9.params.toList.all fun u => !Tryz.prog.wantsStandIn u) = true := by kernel_rfl
        exact (show Tryz.prog.wantsStandIn t = false by simpa using List.all_eq_true.1 hall t hm)⟩)
    (by kernel_rfl)
end Go.Proofs.YtjjdojokkmfbmaaGreatDoor.resolveMeets
