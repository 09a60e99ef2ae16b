/-
  Lists of integers in memory beside stores.
-/
import Derived.Test.YtdfkkknkiioghaaGreatMOwn
namespace Go.Proofs.YtdfkkknkiioghaaGreat
open Go.RowKit
set_option linter.unusedVariables false
theorem intsAt_set {w : World} {S : Option Addr} {ts : List Int} {p : Addr} {v : Value} (hn : ∀ a, S = some a → p.block ≠ a.block) (h : intsAt w S ts) : intsAt (w.setCell p v) S ts := by
  intro i t hi
  obtain ⟨g, o, e, hc⟩ := h i t hi
  refine ⟨g, o, e, ?_⟩
  rw [World.cell?_setCell_other w p _ v (fun he => hn _ e (by rw [he]))]
  exact hc
/-- stores into a box that was there ahead of a call leave the list that the call made -/
theorem intsAt_set3 {w : World} {S : Option Addr} {ts : List Int} {g B : Nat} {v0 v1 v2 : Value} (hB : g < B) (hn : ∀ a, S = some a → B ≤ a.block) (h : intsAt w S ts) :
    intsAt (((w.setCell ⟨g, 0, none⟩ v0).setCell ⟨g, 1, none⟩ v1).setCell ⟨g, 2, none⟩ v2) S ts := by
  have ne : ∀ (o : Nat) (a : Addr), S = some a → (⟨g, o, none⟩ : Addr).block ≠ a.block := by
    intro o a ha
    have := hn a ha
    show g ≠ a.block
    omega
  exact intsAt_set (ne 2) (intsAt_set (ne 1) (intsAt_set (ne 0) h))
theorem intsAt_one {w : World} {g : Nat} {t : Int} (h : w.cell? ⟨g, 0, none⟩ = some (.int .i64 t)) : intsAt w (some ⟨g, 0, none⟩) [t] := by
  intro i u hi
  match i, hi with
  | 0, hi =>
    simp at hi
    subst hi
    exact ⟨g, 0, rfl, h⟩
  | i + 1, hi => simp at hi
end Go.Proofs.YtdfkkknkiioghaaGreat

