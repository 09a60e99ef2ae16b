/-
  The walk of the law: the reference's tracks.
-/
import Derived.Test.YtjjdojokkmfbmaaGreatDoorMAwake25
import Derived.Test.YtjjdojokkmfbmaaGreatDoorMPlanIn
import Derived.Test.YtjjdojokkmfbmaaGreatDoorMTrksr
import Derived.Test.YtjjdojokkmfbmaaGreatDoorCards
import Derived.Test.YtjjdojokkmfbmaaGreatDoorTie
set_option maxRecDepth 100000
set_option maxHeartbeats 16000000
namespace Go.Proofs.YtjjdojokkmfbmaaGreatDoor
open Go.RowKit
set_option linter.unusedVariables false
set_option linter.unusedSimpArgs false
theorem mem_join {w W0 W' : World} {L B : List Box} (h : Mem w W0 L) (k : Mem W0 W' B) : Mem w W' (L ++ B) := by
  have h1 := mem_below h k.below
  refine ⟨h1.below, fun g cs t hm => ?_, ?_⟩
  · rcases List.mem_append.1 hm with hm | hm
    · exact h1.rows g cs t hm
    · have := k.rows g cs t hm
      exact ⟨Nat.le_trans h.below.size this.1, this.2⟩
  · rw [List.map_append, List.nodup_append]
    refine ⟨h.nodup, k.nodup, fun a ha b hb he => ?_⟩
    obtain ⟨⟨x1, x2, x3⟩, hx, e1⟩ := List.mem_map.1 ha
    obtain ⟨⟨y1, y2, y3⟩, hy, e2⟩ := List.mem_map.1 hb
    have q1 := h.lt hx
    have q2 := (k.rows y1 y2 y3 hy).1
    simp only at e1 e2
    omega
theorem ows_form {e : TypeId} {size : Nat} {v : Value} {n : Nat} {xs : List Value} {B : List Box} (h : Ows e size v n xs B) : ∃ S cap, v = .slice S n cap := by
  cases h with
  | nil => exact ⟨none, 0, rfl⟩
  | @row g cap n cur xs _ _ _ _ _ => exact ⟨_, cap, rfl⟩
theorem ows_row {e : TypeId} {size : Nat} {S : Option Addr} {n cap : Nat} {xs : List Value} {B : List Box} (h : Ows e size (.slice S n cap) n xs B) (hn : 0 < n) : ∃ g cur, S = some ⟨g, 0, none⟩ ∧ B = [(g, cur, e)] ∧ cur.take (n * size) = xs := by
  cases h with
  | nil => omega
  | row _ _ _ h4 _ => exact ⟨_, _, rfl, rfl, h4⟩
theorem usualAt_mem {w W : World} {L : List Box} (hM : Mem w W L) (h : usualAt w) : usualAt W := fun i n hi => hM.old (h i n hi)
section
variable {P : Program} {l : List Oper} {Q : Exit → Act → World → Prop} {a : Act} {w W : World} {L K : List Box} {o : Oper} {fuel : Nat} {listed : Array Bool}
theorem tk_old {C : List Value} (hM : Mem w W L) (hK : ∀ b ∈ K, b ∈ L) {i : Nat} (hn : Nth l i o) (hs : Region.noSelect l.toArray = true) (hf : Region.free .any l.toArray listed i = true) (hr : (Region.ready .any l.toArray listed).contains i = true)
 (hgd : o.guard = none) {ty : TypeId} {x : Operand} (ho : o.op = .load ty x) {g off : Nat} (hx : a.eval x = .pointer (some ⟨g, off, none⟩))
 (hg : ∀ w, (isAgg ty).run P w = .ok true w) (hC : ∀ (j : Nat) (v : Value), C[j]? = some v → w.cell? ⟨g, off + j, none⟩ = some v) (hz : ∀ w, (sizeOf ty).run P w = .ok C.length w)
 (hQ : ∀ c a w v, Q (.panic c) (a.put o.dst v) w → Q (.panic c) a w)
 (h : wpAnyH P .any l.toArray Q (Held w K) fuel (listed.setIfInBounds i true) (a.put o.dst (.agg C.toArray)) W) : wpAnyH P .any l.toArray Q (Held w K) (fuel + 1) listed a W :=
  wpAnyH_take hn.get hs hf hr (fun c a w => hQ c a w _) (.inl ⟨by simp [Region.wanted, hgd], fun W1 hS => by
    unfold execOp
    simp only [ho, hx, Instr.loadAt, Instr.sureAddr, Sem.run_bind, Sem.run_pure, Result.andThen_ok, run_loadVar_mem ty g off C.length C hg (size_of W1 hz) rfl (fun j v hj => hS.old (hC j v hj))]⟩) (held_of hM hK) h
end
def tksAt (w : World) (S : Option Addr) (ts : List Tk) : Prop := ∀ (k : Nat) (t : Tk), ts[k]? = some t → ∃ g, S = some ⟨g, 0, none⟩ ∧ ∀ (q : Nat) (v : Value), t.cells[q]? = some v → w.cell? ⟨g, k * 15 + q, none⟩ = some v
theorem tksAt_x {w W : World} {L B : List Box} {S : Option Addr} {cap : Nat} {ts : List Tk} (hM : Mem w W L) (hO : Ows 44 15 (.slice S ts.length cap) ts.length (ts.flatMap Tk.cells) B) (hS : ∀ b ∈ B, b ∈ L) : tksAt W S ts := fun k t ht => by
  obtain ⟨g, cur, rfl, rfl, hcur⟩ := ows_row hO (by have := (List.getElem?_eq_some_iff.1 ht).1; omega)
  refine ⟨g, rfl, fun q v hq => ?_⟩
  have hr := hM.rows g cur 44 (hS _ (.head _))
  rw [cell_of_row W g _ cur.toArray _ (0, 0) hr.2]
  have := row_cell hcur ht (by have := (List.getElem?_eq_some_iff.1 hq).1; simpa [Tk.cells] using this) hq
  simpa using this
theorem tksAt_mem {w W : World} {L : List Box} (hM : Mem w W L) {S : Option Addr} {ts : List Tk} (h : tksAt w S ts) : tksAt W S ts := fun k t ht => by
  obtain ⟨g, e, h2⟩ := h k t ht
  exact ⟨g, e, fun q v hq => hM.old (h2 q v hq)⟩
theorem same_any (S1 S2 : Option Addr) (c1 c2 : Nat) (ts : List Tk) (w : World) (h60 : ts.length ≤ 60) (h1 : Hid (tksAt w S1 ts)) (h2 : Hid (tksAt w S2 ts)) :
    Calls Tryz.prog 20 #[.slice S1 ts.length c1, .slice S2 ts.length c2] w fun e w' => e = .returned (.bool true) ∧ Below w.heap.size w w' := by
  have hM := mem_nil w
  go_enter Tryz.func20, Tryz.ntmps20
  go_wp2_with (first | ((with_reducible refine lX ?_); first | refine aL hM rfl rfl ?_ | refine aM hM rfl rfl ?_) | ((with_reducible refine sX ?_); refine aS hM rfl rfl rfl ?_; clear hM; intro W hM) | ((with_reducible refine bX ?_); refine aB hM rfl rfl ?_; clear hM; intro g W hM) | ((with_reducible refine zX ?_); refine aN hM rfl rfl ?_; clear hM; intro g W hM))
  go_loopw [13] (fun a W => ∃ (k : Nat), a = .int .i64 (k : Int) ∧ k ≤ ts.length ∧ Mem w W []) (fun a _ => ts.length - (intOf a).toNat)
  case atStart => exact ⟨0, rfl, by omega, hM⟩
  case round =>
    clear hM
    obtain ⟨k, rfl, hk, hM⟩ := hrel
    by_cases hlt : k < ts.length
    · obtain ⟨t, ht⟩ : ∃ t, ts[k]? = some t := ⟨_, List.getElem?_eq_getElem hlt⟩
      obtain ⟨g1, rfl, hA⟩ := h1.out k t ht
      obtain ⟨g2, rfl, hB⟩ := h2.out k t ht
      have kb : (k : Int) ≤ 60 := by omega
      clear ht
      go_upto_region 6 with (first | ((with_reducible refine lX ?_); first | refine aL hM rfl rfl ?_ | refine aM hM rfl rfl ?_) | ((with_reducible refine sX ?_); refine aS hM rfl rfl rfl ?_; clear hM; intro W hM) | ((with_reducible refine bX ?_); refine aB hM rfl rfl ?_; clear hM; intro g W hM) | ((with_reducible refine zX ?_); refine aN hM rfl rfl ?_; clear hM; intro g W hM))
      have a0 : wr.cell? ⟨g1, k * 15, none⟩ = some (.int .u8 t.k) := hM.old (hA 0 _ rfl)
      have a1 : wr.cell? ⟨g1, k * 15 + 1, none⟩ = some (.int .i64 t.ax) := hM.old (hA 1 _ rfl)
      have a2 : wr.cell? ⟨g1, k * 15 + 2, none⟩ = some (.int .i64 t.ay) := hM.old (hA 2 _ rfl)
      have a3 : wr.cell? ⟨g1, k * 15 + 3, none⟩ = some (.int .i64 t.bx) := hM.old (hA 3 _ rfl)
      have a4 : wr.cell? ⟨g1, k * 15 + 4, none⟩ = some (.int .i64 t.b_y) := hM.old (hA 4 _ rfl)
      have a5 : wr.cell? ⟨g1, k * 15 + 5, none⟩ = some (.int .i64 t.cx) := hM.old (hA 5 _ rfl)
      have a6 : wr.cell? ⟨g1, k * 15 + 6, none⟩ = some (.int .i64 t.cy) := hM.old (hA 6 _ rfl)
      have a7 : wr.cell? ⟨g1, k * 15 + 7, none⟩ = some (.int .i64 t.r) := hM.old (hA 7 _ rfl)
      have a8 : wr.cell? ⟨g1, k * 15 + 8, none⟩ = some (.int .i64 t.f) := hM.old (hA 8 _ rfl)
      have a9 : wr.cell? ⟨g1, k * 15 + 9, none⟩ = some (.int .i64 t.s) := hM.old (hA 9 _ rfl)
      have a10 : wr.cell? ⟨g1, k * 15 + 10, none⟩ = some (.int .i64 t.ci) := hM.old (hA 10 _ rfl)
      have a11 : wr.cell? ⟨g1, k * 15 + 11, none⟩ = some (.int .i64 t.co) := hM.old (hA 11 _ rfl)
      have a12 : wr.cell? ⟨g1, k * 15 + 12, none⟩ = some (.int .i64 t.len) := hM.old (hA 12 _ rfl)
      have a13 : wr.cell? ⟨g1, k * 15 + 13, none⟩ = some (.int .i64 t.n) := hM.old (hA 13 _ rfl)
      have a14 : wr.cell? ⟨g1, k * 15 + 14, none⟩ = some (.bool t.g) := hM.old (hA 14 _ rfl)
      have b0 : wr.cell? ⟨g2, k * 15, none⟩ = some (.int .u8 t.k) := hM.old (hB 0 _ rfl)
      have b1 : wr.cell? ⟨g2, k * 15 + 1, none⟩ = some (.int .i64 t.ax) := hM.old (hB 1 _ rfl)
      have b2 : wr.cell? ⟨g2, k * 15 + 2, none⟩ = some (.int .i64 t.ay) := hM.old (hB 2 _ rfl)
      have b3 : wr.cell? ⟨g2, k * 15 + 3, none⟩ = some (.int .i64 t.bx) := hM.old (hB 3 _ rfl)
      have b4 : wr.cell? ⟨g2, k * 15 + 4, none⟩ = some (.int .i64 t.b_y) := hM.old (hB 4 _ rfl)
      have b5 : wr.cell? ⟨g2, k * 15 + 5, none⟩ = some (.int .i64 t.cx) := hM.old (hB 5 _ rfl)
      have b6 : wr.cell? ⟨g2, k * 15 + 6, none⟩ = some (.int .i64 t.cy) := hM.old (hB 6 _ rfl)
      have b7 : wr.cell? ⟨g2, k * 15 + 7, none⟩ = some (.int .i64 t.r) := hM.old (hB 7 _ rfl)
      have b8 : wr.cell? ⟨g2, k * 15 + 8, none⟩ = some (.int .i64 t.f) := hM.old (hB 8 _ rfl)
      have b9 : wr.cell? ⟨g2, k * 15 + 9, none⟩ = some (.int .i64 t.s) := hM.old (hB 9 _ rfl)
      have b10 : wr.cell? ⟨g2, k * 15 + 10, none⟩ = some (.int .i64 t.ci) := hM.old (hB 10 _ rfl)
      have b11 : wr.cell? ⟨g2, k * 15 + 11, none⟩ = some (.int .i64 t.co) := hM.old (hB 11 _ rfl)
      have b12 : wr.cell? ⟨g2, k * 15 + 12, none⟩ = some (.int .i64 t.len) := hM.old (hB 12 _ rfl)
      have b13 : wr.cell? ⟨g2, k * 15 + 13, none⟩ = some (.int .i64 t.n) := hM.old (hB 13 _ rfl)
      have b14 : wr.cell? ⟨g2, k * 15 + 14, none⟩ = some (.bool t.g) := hM.old (hB 14 _ rfl)
      clear hA hB
      go_quiet (fail)
      all_goals
        go_wp2_with fail
        all_goals
          go_roundw
          case rel => exact ⟨k + 1, by go_num, by omega, by first | exact hM | exact mem_drew hM | exact mem_drewN hM _⟩
          case measure => simp [intOf]; omega
    · go_wp2_with (first | ((with_reducible refine lX ?_); first | refine aL hM rfl rfl ?_ | refine aM hM rfl rfl ?_) | ((with_reducible refine sX ?_); refine aS hM rfl rfl rfl ?_; clear hM; intro W hM) | ((with_reducible refine bX ?_); refine aB hM rfl rfl ?_; clear hM; intro g W hM) | ((with_reducible refine zX ?_); refine aN hM rfl rfl ?_; clear hM; intro g W hM))
      go_ret
      exact ⟨rfl, hM.below⟩
theorem resolvePlans_walk {W : World} (pa pb : ByteArray) (S : Option Addr) (l : List En) (cap : Nat) (act : Int) (s0 s1 s2 s3 s4 s5 s6 s7 : Int) (ha : pa.size ≤ maxLen) (hb : pb.size ≤ maxLen) (hact : I64 act) (hp : Hid (entsAt W S l)) (hxs : Hid (∀ (k : Nat) (x : En), l[k]? = some x → EnX x)) (hs0 : I64 s0) (hs1 : I64 s1) (hs2 : I64 s2) (hs3 : I64 s3) (hs4 : I64 s4) (hs5 : I64 s5) (hs6 : I64 s6) (hs7 : I64 s7) (hL : laidMetH Tryz.prog laidL W) (w : World) (hw : w = W := by rfl) :
    Calls Tryz.prog 8 #[.agg #[.string pa, .string pb, .slice S l.length cap, .int .i64 act], .agg #[.int .i64 s0, .int .i64 s1, .int .i64 s2, .int .i64 s3, .int .i64 s4, .int .i64 s5, .int .i64 s6, .int .i64 s7]] w fun e w' => e = .returned (.bool true) ∧ Below w.heap.size w w' := by
  subst hw
  have hu := hide (uses_of hL)
  have hq := hide (usual_of hL)
  clear hL
  have TR := fun W h1 h2 => tracks_any pa pb S l cap act s0 s1 s2 s4 s5 s6 s7 W ha hb h1 hxs hs2 hs6 h2
  obtain ⟨ts, idx, er, hR⟩ : ∃ ts idx er, tracksF pa pb l act s0 s1 s2 s4 s5 s6 s7 = (ts, idx, er) := ⟨_, _, _, rfl⟩
  obtain ⟨E0, hE⟩ : ∃ E0, planF pa pb l act = E0 := ⟨_, rfl⟩
  have RTR := fun W h1 => rtracks_any pa pb S l cap act s0 s1 s2 s4 s5 s6 s7 W ha hb h1 hxs hs2 hs6
  rw [hR] at TR RTR
  dsimp only at TR RTR
  have h60 : ts.length ≤ 60 := by
    by_cases he : er = 0
    · subst he
      have h := order_len (tracksF_order (pa := pa) (pb := pb) (l := l) (act := act) (fx := s0) (fy := s1) (c := s2) (spd := s4) (bank := s5) (oalt := s6) (gr := s7) (by rw [hR]))
      rw [hR] at h
      have h0 : planF pa pb l act = 0 := by
        by_cases h0 : planF pa pb l act = 0
        · exact h0
        · have h1 := tracksF_err (fx := s0) (fy := s1) (c := s2) (spd := s4) (bank := s5) (oalt := s6) (gr := s7) h0
          rw [hR] at h1
          injection h1 with e1 e2
          injection e2 with e2 e3
          exact absurd e3.symm h0
      have h2 := (plan_ok h0).1
      simp at h
      omega
    · have h1 : ts = [] := by
        by_cases h0 : planF pa pb l act = 0
        · have h1 := (tracksF_bad (fx := s0) (fy := s1) (c := s2) (spd := s4) (bank := s5) (oalt := s6) (gr := s7) h0 (by rw [hR]; exact he)).1
          rw [hR] at h1
          exact h1
        · have h1 := tracksF_err (fx := s0) (fy := s1) (c := s2) (spd := s4) (bank := s5) (oalt := s6) (gr := s7) h0
          rw [hR] at h1
          injection h1 with e1 e2
      rw [h1]
      decide
  clear hR hE
  have hM := mem_nil w
  go_enter Tryz.func8, Tryz.ntmps8
  go_upto_region 0 with (first | ((with_reducible refine lX ?_); first | refine aL hM rfl rfl ?_ | refine aM hM rfl rfl ?_) | ((with_reducible refine sX ?_); refine aS hM rfl rfl rfl ?_; clear hM; intro W hM) | ((with_reducible refine bX ?_); refine aB hM rfl rfl ?_; clear hM; intro g W hM) | ((with_reducible refine zX ?_); refine aN hM rfl rfl ?_; clear hM; intro g W hM))
  go_cut [2, 3] (fun t2 t3 wx => ∃ gP gS, t2 = .pointer (some ⟨gP, 0, none⟩) ∧ t3 = .pointer (some ⟨gS, 0, none⟩) ∧ Mem w wx [(gS, [.int .i64 s0, .int .i64 s1, .int .i64 s2, .int .i64 s3, .int .i64 s4, .int .i64 s5, .int .i64 s6, .int .i64 s7], 31), (gP, [.string pa, .string pb, .slice S l.length cap, .int .i64 act], 54)])
  case first =>
    go_wp2_with (first | ((with_reducible refine lX ?_); first | refine aL hM rfl rfl ?_ | refine aM hM rfl rfl ?_) | ((with_reducible refine sX ?_); refine aS hM rfl rfl rfl ?_; clear hM; intro W hM) | ((with_reducible refine bX ?_); refine aB hM rfl rfl ?_; clear hM; intro g W hM) | ((with_reducible refine zX ?_); refine aN hM rfl rfl ?_; clear hM; intro g W hM))
    all_goals
      go_meet
      exact ⟨_, _, rfl, rfl, hM⟩
  case rest =>
  clear hM
  obtain ⟨gP, gS, rfl, rfl, hM⟩ := hcut
  go_wp2_with (first | (go_at_call 11; (with_reducible refine (awake25_any _ (hide (usesAt_mem hM hu.out)) (hide (usualAt_mem hM hq.out))).mono ?_); rintro e W1 ⟨rfl, hb⟩; replace hM := mem_below hM hb; clear hb) | (go_at_call 18; (with_reducible refine (TR _ (hide (entsAt_old hM hp.out)) (hide (usesAt_mem hM hu.out))).mono ?_); rintro e W1 ⟨V, B, rfl, hO, hB⟩; replace hM := mem_join hM hB; clear hB; simp only [List.cons_append, List.nil_append] at hM; obtain ⟨SV, capV, hVV⟩ := ows_form hO; subst hVV; have HO := hide hO; clear hO) | (go_at_call 19; (with_reducible refine (RTR _ (hide (entsAt_old hM hp.out))).mono ?_); rintro e W1 ⟨V2, B2, rfl, hO2, hB2⟩; replace hM := mem_join hM hB2; clear hB2; simp only [List.cons_append, List.nil_append] at hM; obtain ⟨SV2, capV2, hVV⟩ := ows_form hO2; subst hVV; have HO2 := hide hO2; clear hO2) | (go_at_call 20; (refine (same_any _ _ _ _ ts _ h60 (hide (tksAt_x hM HO.out (fun b hb => .tail _ (.tail _ (List.mem_append_left _ hb))))) (hide (tksAt_x hM HO2.out (fun b hb => .tail _ (.tail _ (List.mem_append_right _ hb)))))).mono ?_); rintro e W1 ⟨rfl, hb⟩; replace hM := mem_below hM hb; clear hb) | ((with_reducible refine lX ?_); first | refine aL hM rfl rfl ?_ | refine aM hM rfl rfl ?_) | ((with_reducible refine sX ?_); refine aS hM rfl rfl rfl ?_; clear hM; intro W hM) | ((with_reducible refine bX ?_); refine aB hM rfl rfl ?_; clear hM; intro g W hM) | ((with_reducible refine zX ?_); refine aN hM rfl rfl ?_; clear hM; intro g W hM))
  all_goals
    go_ret
    exact ⟨ret_b (by first | rfl | (simp; done)), hM.below⟩
end Go.Proofs.YtjjdojokkmfbmaaGreatDoor
/-
  ResolvePlans: the row's step: the given statement 'ResolvePlansSaid' out of the walk.
-/
namespace Go.Proofs.YtjjdojokkmfbmaaGreatDoor.resolvePlans
open Go.ChangeShapes Go.WideShapes Go.ChangeAt Go.RowKit
set_option linter.unusedVariables false
theorem own : ownKnob Tryz.prog.godebug = none := by kernel_rfl
theorem laidOut : laidOutB Tryz.prog = true := pf_laid
theorem typed : (Tryz.f8.params.toList.all fun t => Tryz.prog.readableRec t && decide (t < Tryz.prog.types.size)) = true := by kernel_rfl
theorem typed' : ∀ t ∈ Tryz.f8.params.toList, Tryz.prog.readableRec t = true ∧ t < Tryz.prog.types.size := by
  intro t ht
  have h := List.all_eq_true.1 typed t ht
  simpa using h
theorem ct54 : Tryz.prog.cellTypes Tryz.prog.depth 54 = some [9, 9, 52, 3] := by kernel_rfl
theorem cn54 : Tryz.prog.cellsOf 54 = ([9, 9, 52, 3] : List TypeId).length := by kernel_rfl
theorem ct31 : Tryz.prog.cellTypes Tryz.prog.depth 31 = some (List.replicate 8 2) := by kernel_rfl
theorem cn31 : Tryz.prog.cellsOf 31 = (List.replicate 8 2).length := by kernel_rfl
theorem lifted (os : Os) (started : os.Started) (H : Type) (enc : TypeId × Value → H) :
    ReturnsInHanded {} Tryz.checked os 8 .any (fun w args => (Rows.resolvePlansSpec.pre enc Tryz.prog Tryz.f8 Rows.resolvePlansRow.domain false w args ∧ laidMetH Tryz.prog laidL w) ∧ sizedMet enc Tryz.prog Tryz.f8 (OpenSpec.ofChange Rows.resolvePlansSpec) false w args) (Rows.resolvePlansSpec.post enc Tryz.prog Tryz.f8 false true false false) := by
  refine returnsInHanded_of_change_and (C := Tryz.checked) (X := fun w _ => laidMetH Tryz.prog laidL w) (fun _ _ _ hh h => h.of_heap hh) own started (by kernel_rfl) Tryz.func8
    (ChangeSpec.witness_shaped (enc := enc) (C := Tryz.checked) (os := os) (X := fun w _ => laidMetH Tryz.prog laidL w) false (World.doorLaid Tryz.prog 400 os) #[.agg #[.string ⟨#[]⟩, .string ⟨#[]⟩, .slice none 0 0, .int .i64 0], .agg #[.int .i64 0, .int .i64 0, .int .i64 0, .int .i64 0, .int .i64 0, .int .i64 0, .int .i64 0, .int .i64 0]] 8 rfl (World.shaped_of_RefB (by kernel_rfl) (by kernel_rfl)) (by kernel_rfl) (by kernel_rfl) (by kernel_rfl) (door_met os _)) ?_
  intro W base args ds gs before hval0 hW hcnd _ hL _
  have hval : ∀ (j : Nat) t v, Tryz.f8.params[j]? = some t → args[j]? = some v → Value.okWide Tryz.prog W .any base t v := hval0
  have hW' := hW
  obtain ⟨p, q, hA0, hV, rfl, hfz, hnd⟩ := hW
  have hlen := trodAll_length _ _ _ _ hA0
  rw [Tryz.params8] at hval hlen
  obtain ⟨v0, v1, rfl⟩ := arr2 hlen.1
  obtain ⟨d0, d1, rfl⟩ := list2 hlen.2
  obtain ⟨lp, rfl, ep, hlp⟩ := ok_agg (Or.inl ⟨_, Tryz.underlying54⟩) ct54 cn54 (hval 0 54 v0 rfl rfl)
  obtain ⟨pc0, pc1, pc2, pc3, rfl⟩ := list4 (ep.trans (by rfl))
  have hA' := hA0
  rw [Tryz.params8] at hA'
  obtain ⟨_, _, hTp, _⟩ := hA'
  obtain ⟨pA, pB, pS, pl, pcap, pact, hpv, hpA, hpB, hpn, hpact, hpp, hpx⟩ := plan_in hTp ⟨pc0, pc1, pc2, pc3, rfl⟩
  obtain ⟨rfl, rfl, rfl, rfl⟩ : pc0 = .string pA ∧ pc1 = .string pB ∧ pc2 = .slice pS pl.length pcap ∧ pc3 = .int .i64 pact := by simpa using hpv
  obtain ⟨ls, rfl, es, hls⟩ := ok_ints (Or.inl ⟨_, Tryz.underlying31⟩) ct31 cn31 (fun u hu => by rw [List.eq_of_mem_replicate hu]; exact Tryz.underlying2) (hval 1 31 v1 rfl rfl)
  obtain ⟨s0, s1, s2, s3, s4, s5, s6, s7, rfl⟩ := list8 (es.trans (by simp))
  have hs0 : I64 s0 := hls _ (by simp)
  have hs1 : I64 s1 := hls _ (by simp)
  have hs2 : I64 s2 := hls _ (by simp)
  have hs3 : I64 s3 := hls _ (by simp)
  have hs4 : I64 s4 := hls _ (by simp)
  have hs5 : I64 s5 := hls _ (by simp)
  have hs6 : I64 s6 := hls _ (by simp)
  have hs7 : I64 s7 := hls _ (by simp)
  refine (resolvePlans_walk pA pB pS pl pcap pact s0 s1 s2 s3 s4 s5 s6 s7 hpA hpB hpact (hide hpp) (hide hpx) hs0 hs1 hs2 hs3 hs4 hs5 hs6 hs7 hL W).mono fun e W' ⟨he, hb⟩ => ?_
  subst he
  exact ⟨_, rfl, law_post (f := Tryz.f8) (s := Rows.resolvePlansSpec) (tb := 4) laidOut typed' rfl (by kernel_rfl) Tryz.underlying4 hW' ⟨rfl, rfl, rfl⟩ hb⟩
theorem k0 : (Rows.resolvePlansRow.wf (OpenSpec.ofChange Rows.resolvePlansSpec)) = true := by kernel_rfl
theorem k3 : (Tryz.f8.params.all (Tryz.prog.readableRec ·)) = true := by kernel_rfl
theorem k4 : (namedTie Tryz.prog Rows.resolvePlansRow.named Rows.resolvePlansSpec.vars) = true := by kernel_rfl
theorem k5 : (Rows.resolvePlansRow.stops == []) = true := by kernel_rfl
theorem k7 : (Rows.resolvePlansRow.knobs == []) = true := by kernel_rfl
theorem k9 : (Rows.resolvePlansRow.inPlace == Tryz.prog.inPlace 8) = true := by kernel_rfl
theorem k10 : (Rows.resolvePlansRow.unfollowed == Tryz.prog.unfollowed 8) = true := by kernel_rfl
theorem k11 : (Rows.resolvePlansRow.recurses == Tryz.prog.recurses 8) = true := by kernel_rfl
theorem k12 : (Rows.resolvePlansRow.named == Tryz.prog.varsNamed 8) = true := by kernel_rfl
theorem k13 : (Rows.resolvePlansRow.maps == (Tryz.f8.params.toList ++ Rows.resolvePlansSpec.plain.varTypes Tryz.prog).any (Tryz.prog.mapsRec ·)) = true := by kernel_rfl
theorem k14 : (Rows.resolvePlansRow.ifaces == (Tryz.f8.params.toList ++ Rows.resolvePlansSpec.plain.varTypes Tryz.prog).any (Tryz.prog.ifacesRec ·)) = true := by kernel_rfl
theorem k15 : (Rows.resolvePlansRow.mapsOut == Tryz.prog.mapsAmong Tryz.f8.resultTypes.toList) = true := by kernel_rfl
theorem k16 : (Rows.resolvePlansRow.loops == (Tryz.f8.params.toList ++ Rows.resolvePlansSpec.plain.varTypes Tryz.prog).any (Tryz.prog.loopsFrom ·)) = true := by kernel_rfl
theorem k17 : (Rows.resolvePlansRow.wideKeys == (Tryz.f8.params.toList ++ Rows.resolvePlansSpec.plain.varTypes Tryz.prog ++ Tryz.f8.resultTypes.toList).any (Tryz.prog.wideKeysFrom ·)) = true := by kernel_rfl
theorem k18 : (Rows.resolvePlansSpec.vars.all (Tryz.prog.varReadable ·)) = true := by kernel_rfl
theorem k19 : (Tryz.f8.resultTypes.all (fun t => Tryz.prog.readableRec t && decide (t < Tryz.prog.types.size))) = true := by kernel_rfl
theorem k20 : (Rows.resolvePlansRow.ifacesOut == Tryz.f8.resultTypes.toList.any (Tryz.prog.ifacesRec ·)) = true := by kernel_rfl
theorem k21 : (Rows.resolvePlansRow.loopsOut == Tryz.f8.resultTypes.toList.any (Tryz.prog.loopsFrom ·)) = true := by kernel_rfl
theorem k22 : (Rows.resolvePlansRow.plainKeys == Tryz.prog.plainKeys) = true := by kernel_rfl
theorem k23 : (Rows.resolvePlansRow.shortTexts.isNone) = true := by kernel_rfl
theorem k26 : (Rows.resolvePlansRow.lifted == Tryz.prog.liftsFinal) = true := by rw [pf_lifts]; rfl
theorem k27 : (Tryz.prog.make == some Rows.resolvePlansRow.make) = true := by rw [pf_make]; rfl
theorem k28 : (Rows.resolvePlansRow.kinds == (if Rows.resolvePlansRow.domain.isEmpty then [] else Tryz.f8.params.toList.map fun t => match Tryz.prog.underlying t with | some (.int k) => some k | _ => none)) = true := by kernel_rfl
theorem k29 : (Rows.resolvePlansRow.pinned == Rows.resolvePlansRow.pinnedBy) = true := by kernel_rfl
theorem k30 : (Rows.resolvePlansRow.veiled == (Tryz.f8.params.toList ++ Rows.resolvePlansSpec.plain.varTypes Tryz.prog ++ Tryz.f8.resultTypes.toList).any (Tryz.prog.veiledRec ·)) = true := by kernel_rfl
theorem k31 : (Rows.resolvePlansRow.veiledFits Tryz.prog Tryz.f8.params.toList (Tryz.f8.params.toList ++ Rows.resolvePlansSpec.plain.varTypes Tryz.prog ++ Tryz.f8.resultTypes.toList)) = true := by kernel_rfl
theorem closed : joinedFacts Tryz.prog 8 Tryz.f8 Rows.resolvePlansSpec Rows.resolvePlansRow = true := (band (band (band (band (band (band (band (band (band (band (band (band (band (band (band (band (band (band (band (band (band (band (band (band (band (band (band (band (band (band (band k0 pf_laid) pf_maps) k3) k4) k5) pf_stops) k7) pf_knobs) k9) k10) k11) k12) k13) k14) k15) k16) k17) k18) k19) k20) k21) k22) k23) pf_heard) pf_enter) k26) k27) k28) k29) k30) k31)
theorem byName : Tryz.prog.funcNamed Rows.resolvePlansRow.func = some 8 := by kernel_rfl
theorem inst : Tryz.f8.isInstance Tryz.prog Rows.resolvePlansRow.origin Rows.resolvePlansRow.targs := of_decide_eq_true (by kernel_rfl)
theorem over : Rows.resolvePlansRow.holds Tryz.pinned (OpenSpec.ofChange Rows.resolvePlansSpec) :=
  OpenClaim.holds_of_wide 8 Tryz.f8 rfl rfl rfl rfl rfl rfl rfl ⟨rfl, rfl, rfl, rfl, rfl⟩ rfl rfl rfl rfl rfl byName Tryz.func8 closed
    inst (by unfold Func.isWrapper; rw [if_neg (of_decide_eq_false (by kernel_rfl))]; exact ⟨rfl, rfl⟩)
    (fun os started H enc _ => lifted os started H enc)
theorem proved : Rows.ResolvePlansCardSaid :=
  Claim7.holds_tied_plain_at .later [] [.data, .data] true Rows.resolvePlansCard.stood.harness false
    over (fun _ h => by cases h) (by kernel_rfl) (fun _ h => by cases h) resolvePlans_row_tie rfl ⟨rfl, rfl⟩ (by kernel_rfl) rfl
    (fun f fn hf hfn => by
      obtain rfl : f = 8 := Option.some.inj ((show Tryz.prog.funcNamed "flightdeck/flightdecklaw25.ResolvePlans" = some 8 by kernel_rfl).symm.trans hf) |>.symm
      obtain rfl : fn = Tryz.f8 := (Option.some.inj (Tryz.func8.symm.trans hfn)).symm
      exact ⟨by kernel_rfl, fun j t ht => by
        have hm : t ∈ Tryz.f8.params.toList := by simpa using Array.mem_of_getElem? ht
        have hall : (Tryz.f8.params.toList.all fun u => !Tryz.prog.wantsStandIn u) = true := by kernel_rfl
        exact (show Tryz.prog.wantsStandIn t = false by simpa using List.all_eq_true.1 hall t hm)⟩)
    (by kernel_rfl)
end Go.Proofs.YtjjdojokkmfbmaaGreatDoor.resolvePlans
