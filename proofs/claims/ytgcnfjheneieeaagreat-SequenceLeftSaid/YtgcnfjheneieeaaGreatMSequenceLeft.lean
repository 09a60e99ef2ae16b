/-
  The walk of the law SequenceLeft.
-/
import Derived.Test.YtgcnfjheneieeaaGreatMAwake28
import Derived.Test.YtgcnfjheneieeaaGreatMToGoX
import Derived.Test.YtgcnfjheneieeaaGreatMToGoS
import Derived.Test.YtgcnfjheneieeaaGreatRows
import Derived.Test.YtgcnfjheneieeaaGreatMFrame
import Derived.Test.YtgcnfjheneieeaaGreatMPathIn
namespace Go.Proofs.YtgcnfjheneieeaaGreat
open Go.RowKit
set_option linter.unusedVariables false
set_option linter.unusedSimpArgs false
def togoF (l : List El) (len el : Int) (dn : Bool) (px py : Int) : Int × Int :=
  if ¬ chkF l len = 0 then (0, chkF l len) else if el < 0 ∨ (l.length : Int) ≤ el then (0, 2) else if dn = true then (0, 0) else
  match l[el.toNat]? with
  | none => (0, 0)
  | some x => if ¬ (locF x.c x.ax x.ay x.bx x.b_y x.cx x.cy x.r x.f x.s px py).2.2 = 0 then (0, (locF x.c x.ax x.ay x.bx x.b_y x.cx x.cy x.r x.f x.s px py).2.2) else (restG l (l.length - el.toNat) el.toNat (x.L - clamp (locF x.c x.ax x.ay x.bx x.b_y x.cx x.cy x.r x.f x.s px py).2.1 0 x.L), 0)
theorem togo_any (S : Option Addr) (l : List El) (cap : Nat) (len el e0 : Int) (dn : Bool) (px py : Int) (w : World) (h2 : l.length ≤ 9223372036854775807) (hcap : l.length ≤ cap) (hp : Hid (pathAt w S l)) (R : Int × Int) (hR : R = togoF l len el dn px py) :
    Calls Tryz.prog 16 #[.agg #[.slice S l.length cap, .int .i64 len], .agg #[.int .i64 el, .int .i64 e0, .bool dn], .agg #[.int .i64 px, .int .i64 py]] w fun e w' => e = .returned (.tuple #[.int .i64 R.1, .int .i64 R.2]) ∧ Below w.heap.size w w' := by
  unfold togoF at hR
  by_cases hc : chkF l len = 0
  · rw [if_neg (by simp [hc])] at hR
    by_cases he : el < 0 ∨ (l.length : Int) ≤ el
    · rw [if_pos he] at hR
      subst hR
      exact togo_out S l cap len px py el e0 dn hc he w h2 hp
    · rw [if_neg he] at hR
      cases dn with
      | true =>
        rw [if_pos rfl] at hR
        subst hR
        exact togo_done S l cap len px py el e0 hc (by omega) (by omega) w h2 hp
      | false =>
        rw [if_neg (by simp)] at hR
        obtain ⟨k, rfl⟩ : ∃ k : Nat, el = k := ⟨el.toNat, by omega⟩
        have hk : k < l.length := by omega
        obtain ⟨b, o, rfl⟩ := pathAt_some hp.out (by omega)
        obtain ⟨x, hx⟩ : ∃ x, l[k]? = some x := ⟨_, List.getElem?_eq_getElem hk⟩
        rw [show ((k : Int)).toNat = k from by omega, hx] at hR
        dsimp only at hR
        obtain ⟨⟨off, al, er⟩, hQ⟩ : ∃ Q, Q = locF x.c x.ax x.ay x.bx x.b_y x.cx x.cy x.r x.f x.s px py := ⟨_, rfl⟩
        rw [← hQ] at hR
        dsimp only at hR
        by_cases h0 : er = 0
        · subst h0
          rw [if_neg (by simp)] at hR
          subst hR
          exact togo_main b o l cap len k e0 px py w h2 hp hc hk x hx off al hQ _ (hide rfl)
        · rw [if_pos h0] at hR
          subst hR
          exact togo_loc b o l cap len px py k e0 hc hk x hx off al er h0 hQ w h2 hp
  · rw [if_pos hc] at hR
    subst hR
    exact togo_err S l cap len px py el e0 dn _ rfl hc w h2 hp
theorem rtogo_any (S : Option Addr) (l : List El) (cap : Nat) (len el e0 : Int) (dn : Bool) (px py : Int) (w : World) (h2 : l.length ≤ 9223372036854775807) (hcap : l.length ≤ cap) (hp : Hid (pathAt w S l)) (R : Int × Int) (hR : R = togoF l len el dn px py) :
    Calls Tryz.prog 17 #[.agg #[.slice S l.length cap, .int .i64 len], .agg #[.int .i64 el, .int .i64 e0, .bool dn], .agg #[.int .i64 px, .int .i64 py]] w fun e w' => e = .returned (.tuple #[.int .i64 R.1, .int .i64 R.2]) ∧ Below w.heap.size w w' := by
  unfold togoF at hR
  by_cases hc : chkF l len = 0
  · rw [if_neg (by simp [hc])] at hR
    by_cases he : el < 0 ∨ (l.length : Int) ≤ el
    · rw [if_pos he] at hR
      subst hR
      exact rtogo_out S l cap len px py el e0 dn hc he w h2 hp
    · rw [if_neg he] at hR
      cases dn with
      | true =>
        rw [if_pos rfl] at hR
        subst hR
        exact rtogo_done S l cap len px py el e0 hc (by omega) (by omega) w h2 hp
      | false =>
        rw [if_neg (by simp)] at hR
        obtain ⟨k, rfl⟩ : ∃ k : Nat, el = k := ⟨el.toNat, by omega⟩
        have hk : k < l.length := by omega
        obtain ⟨b, o, rfl⟩ := pathAt_some hp.out (by omega)
        obtain ⟨x, hx⟩ : ∃ x, l[k]? = some x := ⟨_, List.getElem?_eq_getElem hk⟩
        rw [show ((k : Int)).toNat = k from by omega, hx] at hR
        dsimp only at hR
        obtain ⟨⟨off, al, er⟩, hQ⟩ : ∃ Q, Q = locF x.c x.ax x.ay x.bx x.b_y x.cx x.cy x.r x.f x.s px py := ⟨_, rfl⟩
        rw [← hQ] at hR
        dsimp only at hR
        by_cases h0 : er = 0
        · subst h0
          rw [if_neg (by simp)] at hR
          subst hR
          exact rtogo_main b o l cap len k e0 px py w h2 hcap hp hc hk x hx off al hQ _ (hide rfl)
        · rw [if_pos h0] at hR
          subst hR
          exact rtogo_loc b o l cap len px py k e0 hc hk x hx off al er h0 hQ w h2 hp
  · rw [if_pos hc] at hR
    subst hR
    exact rtogo_err S l cap len px py el e0 dn _ rfl hc w h2 hp
set_option maxRecDepth 100000 in
set_option maxHeartbeats 4000000 in
theorem sequenceLeft_walk0 (w : World) (S : Option Addr) (l : List El) (cap : Nat) (len g0 g1 : Int) (g2 : Bool) (q0 q1 : Int) (h2 : l.length ≤ 9223372036854775807) (hcap : l.length ≤ cap) (hp : Hid (pathAt w S l)) :
    Calls Tryz.prog 6 #[.agg #[.slice S l.length cap, .int .i64 len], .agg #[.int .i64 g0, .int .i64 g1, .bool g2], .agg #[.int .i64 q0, .int .i64 q1]] w fun e w' => e = .returned (.bool true) ∧ Below w.heap.size w w' := by
  obtain ⟨⟨r1, r2⟩, hR⟩ : ∃ R, R = togoF l len g0 g2 q0 q1 := ⟨_, rfl⟩
  have HR := hide hR
  clear hR
  go_enter Tryz.func6, Tryz.ntmps6
  go_wp2_with fail
  refine (awake28_any _).mono ?_
  rintro e w1 ⟨rfl, hb1⟩
  obtain ⟨f1, f2, f3, f4, f5, f6, f7⟩ : w1.cell? ⟨w.heap.size, 0, none⟩ = some (.slice S l.length cap) ∧ w1.cell? ⟨w.heap.size, 1, none⟩ = some (.int .i64 len) ∧ w1.cell? ⟨w.heap.size + 1, 0, none⟩ = some (.int .i64 g0) ∧ w1.cell? ⟨w.heap.size + 1, 1, none⟩ = some (.int .i64 g1) ∧ w1.cell? ⟨w.heap.size + 1, 2, none⟩ = some (.bool g2) ∧ w1.cell? ⟨w.heap.size + 1 + 1, 0, none⟩ = some (.int .i64 q0) ∧ w1.cell? ⟨w.heap.size + 1 + 1, 1, none⟩ = some (.int .i64 q1) := by
    refine ⟨?_, ?_, ?_, ?_, ?_, ?_, ?_⟩ <;> (refine cell_below hb1 ?_; repeat (first | (with_reducible assumption) | ((with_reducible refine cell_set ?_ ?_ _); (· first | (simp; done) | (simp; omega) | omega)) | ((with_reducible refine cell_new ?_ ?_); (· (simp; done)); (· rfl)) | (with_reducible refine cell_alloc ?_ _) | (with_reducible refine cell_drew ?_) | (with_reducible refine cell_drewN ?_ _) | (with_reducible refine cell_below (by assumption) ?_)))
  have zf1 : w.heap.size < w1.heap.size := World.block_lt_of_cell? _ _ f1
  have zf3 : w.heap.size + 1 < w1.heap.size := World.block_lt_of_cell? _ _ f3
  have zf6 : w.heap.size + 1 + 1 < w1.heap.size := World.block_lt_of_cell? _ _ f6
  go_wp2_with fail
  refine (togo_any S l cap len g0 g1 g2 q0 q1 _ h2 hcap (hide (pathAt_below (show Below w.heap.size w _ by (repeat (with_reducible (first | assumption | exact Below.refl _ _ | refine Below.drew ?_ | refine below_drewN ?_ _ | refine below_set ?_ (by simp; try omega) _ | refine below_alloc ?_ (Nat.le_refl _) _ | refine below_sub (by assumption) ?_)))) hp.out)) (r1, r2) HR.out).mono ?_
  rintro e w2 ⟨rfl, hb2⟩
  obtain ⟨f8, f9, f10, f11, f12, f13, f14⟩ : w2.cell? ⟨w.heap.size, 0, none⟩ = some (.slice S l.length cap) ∧ w2.cell? ⟨w.heap.size, 1, none⟩ = some (.int .i64 len) ∧ w2.cell? ⟨w.heap.size + 1, 0, none⟩ = some (.int .i64 g0) ∧ w2.cell? ⟨w.heap.size + 1, 1, none⟩ = some (.int .i64 g1) ∧ w2.cell? ⟨w.heap.size + 1, 2, none⟩ = some (.bool g2) ∧ w2.cell? ⟨w.heap.size + 1 + 1, 0, none⟩ = some (.int .i64 q0) ∧ w2.cell? ⟨w.heap.size + 1 + 1, 1, none⟩ = some (.int .i64 q1) := by
    refine ⟨?_, ?_, ?_, ?_, ?_, ?_, ?_⟩ <;> (refine cell_below hb2 ?_; repeat (first | (with_reducible assumption) | ((with_reducible refine cell_set ?_ ?_ _); (· first | (simp; done) | (simp; omega) | omega)) | ((with_reducible refine cell_new ?_ ?_); (· (simp; done)); (· rfl)) | (with_reducible refine cell_alloc ?_ _) | (with_reducible refine cell_drew ?_) | (with_reducible refine cell_drewN ?_ _) | (with_reducible refine cell_below (by assumption) ?_)))
  have zf8 : w.heap.size < w2.heap.size := World.block_lt_of_cell? _ _ f8
  have zf10 : w.heap.size + 1 < w2.heap.size := World.block_lt_of_cell? _ _ f10
  have zf13 : w.heap.size + 1 + 1 < w2.heap.size := World.block_lt_of_cell? _ _ f13
  clear f1 zf1 f2 f3 zf3 f4 f5 f6 zf6 f7
  go_wp2_with fail
  refine (rtogo_any S l cap len g0 g1 g2 q0 q1 _ h2 hcap (hide (pathAt_below (show Below w.heap.size w _ by (repeat (with_reducible (first | assumption | exact Below.refl _ _ | refine Below.drew ?_ | refine below_drewN ?_ _ | refine below_set ?_ (by simp; try omega) _ | refine below_alloc ?_ (Nat.le_refl _) _ | refine below_sub (by assumption) ?_)))) hp.out)) (r1, r2) HR.out).mono ?_
  rintro e w3 ⟨rfl, hb3⟩
  obtain ⟨f15, f16, f17, f18, f19, f20, f21⟩ : w3.cell? ⟨w.heap.size, 0, none⟩ = some (.slice S l.length cap) ∧ w3.cell? ⟨w.heap.size, 1, none⟩ = some (.int .i64 len) ∧ w3.cell? ⟨w.heap.size + 1, 0, none⟩ = some (.int .i64 g0) ∧ w3.cell? ⟨w.heap.size + 1, 1, none⟩ = some (.int .i64 g1) ∧ w3.cell? ⟨w.heap.size + 1, 2, none⟩ = some (.bool g2) ∧ w3.cell? ⟨w.heap.size + 1 + 1, 0, none⟩ = some (.int .i64 q0) ∧ w3.cell? ⟨w.heap.size + 1 + 1, 1, none⟩ = some (.int .i64 q1) := by
    refine ⟨?_, ?_, ?_, ?_, ?_, ?_, ?_⟩ <;> (refine cell_below hb3 ?_; repeat (first | (with_reducible assumption) | ((with_reducible refine cell_set ?_ ?_ _); (· first | (simp; done) | (simp; omega) | omega)) | ((with_reducible refine cell_new ?_ ?_); (· (simp; done)); (· rfl)) | (with_reducible refine cell_alloc ?_ _) | (with_reducible refine cell_drew ?_) | (with_reducible refine cell_drewN ?_ _) | (with_reducible refine cell_below (by assumption) ?_)))
  have zf15 : w.heap.size < w3.heap.size := World.block_lt_of_cell? _ _ f15
  have zf17 : w.heap.size + 1 < w3.heap.size := World.block_lt_of_cell? _ _ f17
  have zf20 : w.heap.size + 1 + 1 < w3.heap.size := World.block_lt_of_cell? _ _ f20
  clear f8 zf8 f9 f10 zf10 f11 f12 f13 zf13 f14
  go_wp2_with fail
  all_goals
    go_ret
    exact ⟨rfl, by (repeat (with_reducible (first | assumption | exact Below.refl _ _ | refine Below.drew ?_ | refine below_drewN ?_ _ | refine below_set ?_ (by simp; try omega) _ | refine below_alloc ?_ (Nat.le_refl _) _ | refine below_sub (by assumption) ?_)))⟩
theorem sequenceLeft_walk {W : World} (S : Option Addr) (l : List El) (cap : Nat) (len g0 g1 : Int) (g2 : Bool) (q0 q1 : Int) (h2 : l.length ≤ 9223372036854775807) (hcap : l.length ≤ cap) (hp : Hid (pathAt W S l)) (hg0 : I64 g0) (hg1 : I64 g1) (hq0 : I64 q0) (hq1 : I64 q1) (w : World) (hw : w = W := by rfl) :
    Calls Tryz.prog 6 #[.agg #[.slice S l.length cap, .int .i64 len], .agg #[.int .i64 g0, .int .i64 g1, .bool g2], .agg #[.int .i64 q0, .int .i64 q1]] w fun e w' => e = .returned (.bool true) ∧ Below w.heap.size w w' := by
  subst hw
  exact sequenceLeft_walk0 w S l cap len g0 g1 g2 q0 q1 h2 hcap hp
end Go.Proofs.YtgcnfjheneieeaaGreat

/-
  SequenceLeft: the row's step: the given statement 'SequenceLeftSaid' out of the walk.
-/
namespace Go.Proofs.YtgcnfjheneieeaaGreat.sequenceLeft
open Go.ChangeShapes Go.WideShapes Go.ChangeAt Go.RowKit
set_option linter.unusedVariables false

theorem own : ownKnob Tryz.prog.godebug = none := by kernel_rfl
theorem laidOut : laidOutB Tryz.prog = true := pf_laid
theorem typed : (Tryz.f6.params.toList.all fun t => Tryz.prog.readableRec t && decide (t < Tryz.prog.types.size)) = true := by kernel_rfl
theorem typed' : ∀ t ∈ Tryz.f6.params.toList, Tryz.prog.readableRec t = true ∧ t < Tryz.prog.types.size := by
  intro t ht
  have h := List.all_eq_true.1 typed t ht
  simpa using h
theorem cell_at {P : Program} {w : World} {r : Reach} {base : Nat} {ts : List TypeId} {cs : List Value} (h : ∀ (i : Nat) (x : Value), cs[i]? = some x → ∃ u, ts[i]? = some u ∧ Cell.okWide P w r base u x) {k : Nat} {x : Value} {u : TypeId} (hk : cs[k]? = some x) (hu : ts[k]? = some u) : Cell.okWide P w r base u x := by
  obtain ⟨u', h1, h2⟩ := h k x hk
  rw [hu] at h1
  injection h1 with h1
  rw [h1]; exact h2
theorem ct36 : Tryz.prog.cellTypes Tryz.prog.depth 36 = some [34, 2] := by kernel_rfl
theorem cn36 : Tryz.prog.cellsOf 36 = ([34, 2] : List TypeId).length := by kernel_rfl
theorem lst3 {α : Type} {l : List α} (h : l.length = 3) : ∃ x0 x1 x2 : α, l = [x0, x1, x2] := by
  match l, h with
  | [x0, x1, x2], _ => exact ⟨x0, x1, x2, rfl⟩
theorem ct38 : Tryz.prog.cellTypes Tryz.prog.depth 38 = some [3, 3, 4] := by kernel_rfl
theorem cn38 : Tryz.prog.cellsOf 38 = ([3, 3, 4] : List TypeId).length := by kernel_rfl
theorem ct23 : Tryz.prog.cellTypes Tryz.prog.depth 23 = some (List.replicate 2 2) := by kernel_rfl
theorem cn23 : Tryz.prog.cellsOf 23 = (List.replicate 2 2).length := by kernel_rfl
set_option maxRecDepth 100000 in
theorem lifted (os : Os) (started : os.Started) (H : Type) (enc : TypeId × Value → H) :
    ReturnsInHanded {} Tryz.checked os 6 .any (Rows.sequenceLeftSpec.pre6 enc Tryz.prog Tryz.f6 Rows.sequenceLeftRow.domain false) (Rows.sequenceLeftSpec.post enc Tryz.prog Tryz.f6 false true false false) := by
  refine returnsInHanded_of_change (C := Tryz.checked) own started (by kernel_rfl) Tryz.func6
    (ChangeSpec.witness6 (enc := enc) (C := Tryz.checked) false ⟨#[], #[.agg #[.slice none 0 0, .int .i64 0], .agg #[.int .i64 0, .int .i64 0, .bool false], .agg #[.int .i64 0, .int .i64 0]], []⟩ 8 (by kernel_rfl) (by kernel_rfl) (by kernel_rfl) (by kernel_rfl)) ?_
  intro W base args ds gs before hval0 hW hcnd _
  have hval : ∀ (j : Nat) t v, Tryz.f6.params[j]? = some t → args[j]? = some v → Value.okWide Tryz.prog W .any base t v := hval0
  have hW' := hW
  obtain ⟨p, q, hA0, hV, rfl, hfz, hnd⟩ := hW
  have hlen := trodAll_length _ _ _ _ hA0
  rw [Tryz.params6] at hval hlen
  obtain ⟨v0, v1, v2, rfl⟩ := arr3 hlen.1
  obtain ⟨d0, d1, d2, rfl⟩ := list3 hlen.2
  obtain ⟨lp, rfl, ep, hlp⟩ := ok_agg (Or.inl ⟨_, Tryz.underlying36⟩) ct36 cn36 (hval 0 36 v0 rfl rfl)
  obtain ⟨pc0, pc1, rfl⟩ := list2 (ep.trans (by rfl))
  have hA' := hA0
  rw [Tryz.params6] at hA'
  obtain ⟨_, _, hTp, _⟩ := hA'
  obtain ⟨pS, pl, pcap, plen, hpv, hpl, hpcap, hpp⟩ := path_in2 hTp ⟨pc0, pc1, rfl⟩
  obtain ⟨rfl, rfl⟩ : pc0 = .slice pS pl.length pcap ∧ pc1 = .int .i64 plen := by simpa using hpv
  obtain ⟨lg, rfl, eg, hlg⟩ := ok_agg (Or.inl ⟨_, Tryz.underlying38⟩) ct38 cn38 (hval 1 38 v1 rfl rfl)
  obtain ⟨cg0, cg1, cg2, rfl⟩ := lst3 (eg.trans (by rfl))
  obtain ⟨g0, rfl, hg0⟩ := cell_i64 Tryz.underlying3 (cell_at hlg (k := 0) rfl rfl)
  obtain ⟨g1, rfl, hg1⟩ := cell_i64 Tryz.underlying3 (cell_at hlg (k := 1) rfl rfl)
  obtain ⟨g2, rfl⟩ := cell_bool Tryz.underlying4 (cell_at hlg (k := 2) rfl rfl)
  obtain ⟨lq, rfl, eq, hlq⟩ := ok_ints (Or.inl ⟨_, Tryz.underlying23⟩) ct23 cn23 (fun u hu => by rw [List.eq_of_mem_replicate hu]; exact Tryz.underlying2) (hval 2 23 v2 rfl rfl)
  obtain ⟨q0, q1, rfl⟩ := list2 (eq.trans (by simp))
  have hq0 : I64 q0 := hlq _ (by simp)
  have hq1 : I64 q1 := hlq _ (by simp)
  refine (sequenceLeft_walk pS pl pcap plen g0 g1 g2 q0 q1 hpl hpcap (hide hpp) hg0 hg1 hq0 hq1 W).mono fun e W' ⟨he, hb⟩ => ?_
  subst he
  exact ⟨_, rfl, law_post (f := Tryz.f6) (s := Rows.sequenceLeftSpec) (tb := 4) laidOut typed' rfl (by kernel_rfl) Tryz.underlying4 hW' ⟨rfl, rfl, rfl⟩ hb⟩

theorem k0 : (Rows.sequenceLeftRow.wf (OpenSpec.ofChange Rows.sequenceLeftSpec)) = true := by kernel_rfl
theorem k3 : (Tryz.f6.params.all (Tryz.prog.readableRec ·)) = true := by kernel_rfl
theorem k4 : (namedTie Tryz.prog Rows.sequenceLeftRow.named Rows.sequenceLeftSpec.vars) = true := by kernel_rfl
theorem k5 : (Rows.sequenceLeftRow.stops == []) = true := by kernel_rfl
theorem k7 : (Rows.sequenceLeftRow.knobs == []) = true := by kernel_rfl
theorem k9 : (Rows.sequenceLeftRow.inPlace == Tryz.prog.inPlace 6) = true := by kernel_rfl
theorem k10 : (Rows.sequenceLeftRow.unfollowed == Tryz.prog.unfollowed 6) = true := by kernel_rfl
theorem k11 : (Rows.sequenceLeftRow.recurses == Tryz.prog.recurses 6) = true := by kernel_rfl
theorem k12 : (Rows.sequenceLeftRow.named == Tryz.prog.varsNamed 6) = true := by kernel_rfl
theorem k13 : (Rows.sequenceLeftRow.maps == (Tryz.f6.params.toList ++ Rows.sequenceLeftSpec.plain.varTypes Tryz.prog).any (Tryz.prog.mapsRec ·)) = true := by kernel_rfl
theorem k14 : (Rows.sequenceLeftRow.ifaces == (Tryz.f6.params.toList ++ Rows.sequenceLeftSpec.plain.varTypes Tryz.prog).any (Tryz.prog.ifacesRec ·)) = true := by kernel_rfl
theorem k15 : (Rows.sequenceLeftRow.mapsOut == Tryz.prog.mapsAmong Tryz.f6.resultTypes.toList) = true := by kernel_rfl
theorem k16 : (Rows.sequenceLeftRow.loops == (Tryz.f6.params.toList ++ Rows.sequenceLeftSpec.plain.varTypes Tryz.prog).any (Tryz.prog.loopsFrom ·)) = true := by kernel_rfl
theorem k17 : (Rows.sequenceLeftRow.wideKeys == (Tryz.f6.params.toList ++ Rows.sequenceLeftSpec.plain.varTypes Tryz.prog ++ Tryz.f6.resultTypes.toList).any (Tryz.prog.wideKeysFrom ·)) = true := by kernel_rfl
theorem k18 : (Rows.sequenceLeftSpec.vars.all (Tryz.prog.varReadable ·)) = true := by kernel_rfl
theorem k19 : (Tryz.f6.resultTypes.all (fun t => Tryz.prog.readableRec t && decide (t < Tryz.prog.types.size))) = true := by kernel_rfl
theorem k20 : (Rows.sequenceLeftRow.ifacesOut == Tryz.f6.resultTypes.toList.any (Tryz.prog.ifacesRec ·)) = true := by kernel_rfl
theorem k21 : (Rows.sequenceLeftRow.loopsOut == Tryz.f6.resultTypes.toList.any (Tryz.prog.loopsFrom ·)) = true := by kernel_rfl
theorem k22 : (Rows.sequenceLeftRow.plainKeys == Tryz.prog.plainKeys) = true := by kernel_rfl
theorem k23 : (Rows.sequenceLeftRow.shortTexts.isNone) = true := by kernel_rfl
theorem k26 : (Rows.sequenceLeftRow.lifted == Tryz.prog.liftsFinal) = true := by rw [pf_lifts]; rfl
theorem k27 : (Tryz.prog.make == some Rows.sequenceLeftRow.make) = true := by rw [pf_make]; rfl
theorem k28 : (Rows.sequenceLeftRow.kinds == (if Rows.sequenceLeftRow.domain.isEmpty then [] else Tryz.f6.params.toList.map fun t => match Tryz.prog.underlying t with | some (.int k) => some k | _ => none)) = true := by kernel_rfl
theorem k29 : (Rows.sequenceLeftRow.pinned == Rows.sequenceLeftRow.pinnedBy) = true := by kernel_rfl
theorem k30 : (Rows.sequenceLeftRow.veiled == (Tryz.f6.params.toList ++ Rows.sequenceLeftSpec.plain.varTypes Tryz.prog ++ Tryz.f6.resultTypes.toList).any (Tryz.prog.veiledRec ·)) = true := by kernel_rfl
theorem k31 : (Rows.sequenceLeftRow.veiledFits Tryz.prog Tryz.f6.params.toList (Tryz.f6.params.toList ++ Rows.sequenceLeftSpec.plain.varTypes Tryz.prog ++ Tryz.f6.resultTypes.toList)) = true := by kernel_rfl
set_option maxRecDepth 100000 in
theorem closed : joinedFacts Tryz.prog 6 Tryz.f6 Rows.sequenceLeftSpec Rows.sequenceLeftRow = true := (band (band (band (band (band (band (band (band (band (band (band (band (band (band (band (band (band (band (band (band (band (band (band (band (band (band (band (band (band (band (band k0 pf_laid) pf_maps) k3) k4) k5) pf_stops) k7) pf_knobs) k9) k10) k11) k12) k13) k14) k15) k16) k17) k18) k19) k20) k21) k22) k23) pf_heard) pf_enter) k26) k27) k28) k29) k30) k31)
theorem byName : Tryz.prog.funcNamed Rows.sequenceLeftRow.func = some 6 := by kernel_rfl
theorem inst : Tryz.f6.isInstance Tryz.prog Rows.sequenceLeftRow.origin Rows.sequenceLeftRow.targs := of_decide_eq_true (by kernel_rfl)
theorem over : Rows.sequenceLeftRow.holds Tryz.pinned (OpenSpec.ofChange Rows.sequenceLeftSpec) :=
  OpenClaim.holds_of_wide 6 Tryz.f6 rfl rfl rfl rfl rfl rfl rfl ⟨rfl, rfl, rfl, rfl, rfl⟩ rfl rfl rfl rfl rfl byName Tryz.func6 closed
    inst (by unfold Func.isWrapper; rw [if_neg (of_decide_eq_false (by kernel_rfl))]; exact ⟨rfl, rfl⟩)
    (fun os started H enc _ => lifted os started H enc)

/-- The given statement. -/
theorem proved : Rows.SequenceLeftSaid := over
end Go.Proofs.YtgcnfjheneieeaaGreat.sequenceLeft

