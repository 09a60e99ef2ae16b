/-
  Step for all paths, progresses and points.
-/
import Derived.Test.YtdfkkknkiioghaaGreatMStepX
import Derived.Test.YtdfkkknkiioghaaGreatMOwn
namespace Go.Proofs.YtdfkkknkiioghaaGreat
open Go.RowKit
set_option linter.unusedVariables false
set_option linter.unusedSimpArgs false
theorem step_any (S : Option Addr) (l : List El) (cap : Nat) (len el e0 : Int) (dn : Bool) (px py : Int) (w : World) (h2 : l.length ≤ 9223372036854775807) (hp : Hid (pathAt w S l)) (R : Int × Int × Bool × List Int) (hR : R = stepR l len el e0 dn px py) :
    Calls Tryz.prog 5 #[.agg #[.slice S l.length cap, .int .i64 len], .agg #[.int .i64 el, .int .i64 e0, .bool dn], .agg #[.int .i64 px, .int .i64 py]] w fun e w' => ∃ S' cap', e = .returned (.tuple #[.agg #[.int .i64 R.1, .int .i64 R.2.1, .bool R.2.2.1], .slice S' R.2.2.2.length cap']) ∧ Hid (intsAt w' S' R.2.2.2) ∧ Hid (∀ a, S' = some a → w.heap.size ≤ a.block) ∧ Below w.heap.size w w' := by
  have nil : ∀ {e : Ending} {w' : World}, (e = .returned (.tuple #[.agg #[.int .i64 el, .int .i64 e0, .bool dn], .slice none 0 0]) ∧ Below w.heap.size w w') → ∃ S' cap', e = .returned (.tuple #[.agg #[.int .i64 el, .int .i64 e0, .bool dn], .slice S' ([] : List Int).length cap']) ∧ Hid (intsAt w' S' ([] : List Int)) ∧ Hid (∀ a, S' = some a → w.heap.size ≤ a.block) ∧ Below w.heap.size w w' :=
    fun h => ⟨none, 0, h.1, hide (fun i t hi => by simp at hi), hide (fun a ha => by cases ha), h.2⟩
  unfold stepR at hR
  by_cases hc : chkF l len = 0
  · rw [if_neg (by simp [hc])] at hR
    rcases hq : vldB px py with _ | _
    · rw [if_pos hq] at hR
      subst hR
      exact (step_bad S l cap len px py el e0 dn hc hq w h2 hp).mono fun e w' h => nil h
    · rw [if_neg (by simp [hq])] at hR
      cases dn with
      | true =>
        rw [if_pos rfl] at hR
        subst hR
        exact (step_done S l cap len px py el e0 hc hq w h2 hp).mono fun e w' h => nil h
      | false =>
        rw [if_neg (by simp)] at hR
        by_cases he : el < 0 ∨ (l.length : Int) ≤ el
        · rw [if_pos he] at hR
          subst hR
          exact (step_out S l cap len px py el e0 hc hq he w h2 hp).mono fun e w' h => nil h
        · rw [if_neg he] at hR
          obtain ⟨k, rfl⟩ : ∃ k : Nat, el = k := ⟨el.toNat, by omega⟩
          have hk : k < l.length := by omega
          obtain ⟨b, o, rfl⟩ := pathAt_some hp.out (by omega)
          obtain ⟨x, hx⟩ : ∃ x, l[k]? = some x := ⟨_, List.getElem?_eq_getElem hk⟩
          rw [show ((k : Int)).toNat = k from by omega, hx] at hR
          dsimp only at hR
          refine (step_main b o l cap len k e0 px py w h2 hp hc hq hk x hx _ (hide rfl)).mono ?_
          rintro e w' ⟨v, rfl, ho, hb⟩
          obtain ⟨S', cap', rfl, hi, hn⟩ := owns_ints ho
          subst hR
          exact ⟨S', cap', rfl, hide hi, hide hn, hb⟩
  · rw [if_pos hc] at hR
    subst hR
    exact (step_err S l cap len px py el e0 dn _ rfl hc w h2 hp).mono fun e w' h => nil h
end Go.Proofs.YtdfkkknkiioghaaGreat

