/-
  Cells of the call that are not frozen, with their values.
-/
import Derived.Test.YtdfkkknkiioghaaGreatMGeo
import Derived.WalkKit
namespace Go.Proofs.YtdfkkknkiioghaaGreat
open Go.RowKit
set_option linter.unusedVariables false
theorem own_below {W w1 : World} (hb : Below W.heap.size W w1) {a : Addr} {v : Value} (h : W.cell? a = some v ∧ W.frozen? a = false) : w1.cell? a = some v ∧ w1.frozen? a = false :=
  have hl := World.block_lt_of_cell? W a h.1
  ⟨(hb.cell hl).trans h.1, (hb.frozen hl).trans h.2⟩
theorem own_new {w : World} {c : Array Value} {t : TypeId} {n i : Nat} {v : Value} (hn : n = w.heap.size) (h : c[i]? = some v) : (w.alloc (.cells c t)).cell? ⟨n, i, none⟩ = some v ∧ (w.alloc (.cells c t)).frozen? ⟨n, i, none⟩ = false :=
  ⟨cell_new hn h, by subst hn; simp⟩
theorem own_alloc {w : World} {a : Addr} {v : Value} (h : w.cell? a = some v ∧ w.frozen? a = false) (o : Obj) : (w.alloc o).cell? a = some v ∧ (w.alloc o).frozen? a = false :=
  own_below ((Below.refl _ w).alloc (Nat.le_refl _) o) h
theorem own_same {w : World} {a : Addr} {v : Value} (h : w.cell? a = some v ∧ w.frozen? a = false) (u : Value) : (w.setCell a u).cell? a = some u ∧ (w.setCell a u).frozen? a = false :=
  ⟨World.cell?_setCell_same w a u h.1, by rw [← h.2]; simp⟩
theorem own_set {w : World} {a p : Addr} {v : Value} (hp : p ≠ a) (h : w.cell? a = some v ∧ w.frozen? a = false) (u : Value) : (w.setCell p u).cell? a = some v ∧ (w.setCell p u).frozen? a = false :=
  ⟨(World.cell?_setCell_other w p a u hp).trans h.1, by rw [← h.2]; simp⟩
theorem fly_eq {v0 v1 v2 v3 v4 v5 v6 v7 v8 v9 e0 u0 u1 u2 u3 u4 u5 u6 u7 u8 u9 e : Int} (h : ([u0, u1, u2, u3, u4, u5, u6, u7, u8, u9], e) = ([v0, v1, v2, v3, v4, v5, v6, v7, v8, v9], e0)) :
    (u0 = v0 ∧ u1 = v1 ∧ u2 = v2 ∧ u3 = v3 ∧ u4 = v4) ∧ (u5 = v5 ∧ u6 = v6 ∧ u7 = v7 ∧ u8 = v8 ∧ u9 = v9) ∧ e = e0 := by
  simpa [and_assoc] using h
theorem mine_own {w : World} {a : Addr} {v : Value} (h : w.cell? a = some v ∧ w.frozen? a = false) : w.cell? a = some (cellV w a) ∧ w.frozen? a = false := mine_of h.1 h.2
theorem own_drew {w : World} {a : Addr} {v : Value} (h : w.cell? a = some v ∧ w.frozen? a = false) : w.drew.cell? a = some v ∧ w.drew.frozen? a = false := h
theorem own_drewN {w : World} {a : Addr} {v : Value} (h : w.cell? a = some v ∧ w.frozen? a = false) (n : Nat) : (w.drewN n).cell? a = some v ∧ (w.drewN n).frozen? a = false := h
end Go.Proofs.YtdfkkknkiioghaaGreat

/-
  Lists of integers in memory; the walk of same over equal lists.
-/
namespace Go.Proofs.YtdfkkknkiioghaaGreat
open Go.RowKit
set_option linter.unusedVariables false
set_option linter.unusedSimpArgs false
/-- the integers of a slice -/
def intsAt (w : World) (S : Option Addr) (ts : List Int) : Prop := ∀ (i : Nat) (t : Int), ts[i]? = some t → ∃ g o, S = some ⟨g, o, none⟩ ∧ w.cell? ⟨g, o + i, none⟩ = some (.int .i64 t)
theorem intsAt_below {W w1 : World} (hb : Below W.heap.size W w1) {S : Option Addr} {ts : List Int} (h : intsAt W S ts) : intsAt w1 S ts := by
  intro i t hi
  obtain ⟨g, o, e, hc⟩ := h i t hi
  exact ⟨g, o, e, cell_below hb hc⟩
theorem owns_ints {w : World} {base : Nat} {v : Value} {ts : List Int} {e : TypeId} (h : w.ownsRow base e 1 v ts.length (ts.map (Value.int .i64))) : ∃ S cap, v = .slice S ts.length cap ∧ intsAt w S ts ∧ (∀ a, S = some a → base ≤ a.block) := by
  have h0 := h
  rcases h.2 with ⟨h1, h2⟩ | ⟨g, cap, cur, h1, hg, h2⟩
  · have : ts = [] := by
      cases ts with
      | nil => rfl
      | cons t ts => simp at h2
    subst this
    exact ⟨none, 0, h1, fun i t hi => by simp at hi, fun a ha => by cases ha⟩
  · subst h1
    refine ⟨_, _, rfl, fun i t hi => ?_, fun a ha => by injection ha with ha; subst ha; exact hg⟩
    have hi2 := (List.getElem?_eq_some_iff.1 hi).1
    refine ⟨g, 0, rfl, ?_⟩
    rw [Nat.zero_add]
    have := World.ownsRow.cellAt h0 i (by simpa using hi2)
    refine Eq.trans ?_ (this.trans ?_)
    · simp [Addr.add]
    · simp [hi]
theorem intsAt_get {w : World} {g o : Nat} {ts : List Int} {i : Nat} {t : Int} (h : intsAt w (some ⟨g, o, none⟩) ts) (hi : ts[i]? = some t) : w.cell? ⟨g, o + i, none⟩ = some (.int .i64 t) := by
  obtain ⟨g', o', e, hc⟩ := h i t hi
  injection e with e
  injection e with e1 e2
  subst e1; subst e2
  exact hc
theorem intsAt_some {w : World} {S : Option Addr} {ts : List Int} (h : intsAt w S ts) (h0 : 0 < ts.length) : ∃ g o, S = some ⟨g, o, none⟩ := by
  obtain ⟨g, o, e, _⟩ := h 0 ts[0] (List.getElem?_eq_getElem h0)
  exact ⟨g, o, e⟩
set_option maxRecDepth 100000 in
set_option maxHeartbeats 4000000 in
theorem same_eq (Sa Sb : Option Addr) (ca cb : Nat) (ts : List Int) (w : World) (h2 : ts.length ≤ 9223372036854775807) (ha : Hid (intsAt w Sa ts)) (hb : Hid (intsAt w Sb ts)) :
    Calls Tryz.prog 7 #[.slice Sa ts.length ca, .slice Sb ts.length cb] w fun e w' => e = .returned (.bool true) ∧ Below w.heap.size w w' := by
  go_enter Tryz.func7, Tryz.ntmps7
  go_wp2_with fail
  go_loopw [13] (fun i W => ∃ k : Nat, k ≤ ts.length ∧ i = .int .i64 k ∧ Below w.heap.size w W) (fun i _ => ts.length - (intOf i).toNat)
  case atStart => exact ⟨0, by omega, rfl, by (repeat (with_reducible (first | assumption | exact Below.refl _ _ | refine Below.drew ?_ | refine below_drewN ?_ _ | refine below_set ?_ (by simp; try omega) _ | refine below_alloc ?_ (Nat.le_refl _) _ | refine below_sub (by assumption) ?_)))⟩
  case round =>
    obtain ⟨k, hk, rfl, K⟩ := hrel
    by_cases hlt : k < ts.length
    · have hx : ts[k]? = some ts[k] := List.getElem?_eq_getElem hlt
      obtain ⟨ga, oa, rfl⟩ := intsAt_some ha.out (by omega)
      obtain ⟨gb, ob, rfl⟩ := intsAt_some hb.out (by omega)
      have ea := intsAt_get (intsAt_below K ha.out) hx
      have eb := intsAt_get (intsAt_below K hb.out) hx
      generalize ts[k] = t at *
      go_wp2_with fail
      go_quiet (fail)
      go_wp2_with fail
      go_roundw
      case rel => exact ⟨k + 1, by omega, by go_num, by (repeat (with_reducible (first | assumption | exact Below.refl _ _ | refine Below.drew ?_ | refine below_drewN ?_ _ | refine below_set ?_ (by simp; try omega) _ | refine below_alloc ?_ (Nat.le_refl _) _ | refine below_sub (by assumption) ?_)))⟩
      case measure => simp [intOf]; omega
    · go_wp2_with fail
      go_ret
      exact ⟨rfl, by (repeat (with_reducible (first | assumption | exact Below.refl _ _ | refine Below.drew ?_ | refine below_drewN ?_ _ | refine below_set ?_ (by simp; try omega) _ | refine below_alloc ?_ (Nat.le_refl _) _ | refine below_sub (by assumption) ?_)))⟩
end Go.Proofs.YtdfkkknkiioghaaGreat

