/-
  A slice of points that came in, out of what the row's reading says.
-/
import Derived.Test.YtdfkkknkiioghaaMPathIn
namespace Go.Proofs.Ytdfkkknkiioghaa
open Go.ChangeShapes Go.WideShapes Go.ChangeAt Go.RowKit Go.Deep
set_option linter.unusedVariables false
set_option linter.unusedSimpArgs false
/-- the points of a slice -/
def ptsAt (w : World) (S : Option Addr) (ls : List (Int × Int)) : Prop := ∀ (i : Nat) (q : Int × Int), ls[i]? = some q → ∃ b o, S = some ⟨b, o, none⟩ ∧ w.cell? ⟨b, o + i * 2, none⟩ = some (.int .i64 q.1) ∧ w.cell? ⟨b, o + i * 2 + 1, none⟩ = some (.int .i64 q.2)
theorem ptsAt_below {W w1 : World} (hb : Below W.heap.size W w1) {S : Option Addr} {ls : List (Int × Int)} (h : ptsAt W S ls) : ptsAt w1 S ls := by
  intro i q hi
  obtain ⟨b, o, e, h1, h2⟩ := h i q hi
  exact ⟨b, o, e, cell_below hb h1, cell_below hb h2⟩
theorem ptsAt_get {W : World} {b o k : Nat} {ls : List (Int × Int)} {q : Int × Int} (h : ptsAt W (some ⟨b, o, none⟩) ls) (hk : ls[k]? = some q) : W.cell? ⟨b, o + k * 2, none⟩ = some (.int .i64 q.1) ∧ W.cell? ⟨b, o + k * 2 + 1, none⟩ = some (.int .i64 q.2) := by
  obtain ⟨b', o', e, h1, h2⟩ := h k q hk
  injection e with e
  injection e with e1 e2
  subst e1; subst e2
  exact ⟨h1, h2⟩
theorem ptsAt_some {W : World} {S : Option Addr} {ls : List (Int × Int)} (h : ptsAt W S ls) (h0 : 0 < ls.length) : ∃ b o, S = some ⟨b, o, none⟩ := by
  obtain ⟨b, o, e, _⟩ := h 0 ls[0] (List.getElem?_eq_getElem h0)
  exact ⟨b, o, e⟩
theorem lst2p {α : Type} {l : List α} (h : l.length = 2) : ∃ c0 c1 : α, l = [c0, c1] := by
  match l, h with
  | [c0, c1], _ => exact ⟨c0, c1, rfl⟩
theorem pts_in {H : Type} {enc : TypeId × Value → H} {W : World} {held : Bool} {a : Option Addr} {n cap : Nat} {d : DataW H} {ps : List MemPlace} (h : DataW.Trod enc Try.prog W 0 (fun _ => true) held 43 (.slice a n cap) d ps) :
    ∃ ls : List (Int × Int), n = ls.length ∧ ls.length ≤ 9223372036854775807 ∧ ptsAt W a ls := by
  obtain ⟨fuel, h⟩ := h
  have h : DataW.trod enc Try.prog W 0 (fun _ => true) held fuel 43 [.slice a n cap] = some (d, ps) := h
  rcases open_slice Try.underlying43 h with ⟨hc, _⟩ | ⟨a', ln, cap', mm, k, D, Pl, hc, _, hlc, hcm, hmm, _, hall⟩
  · injection hc with hc
    injection hc with h1 h2 h3
    subst h1; subst h2
    exact ⟨[], rfl, by simp, fun k x hx => by simp at hx⟩
  · injection hc with hc
    injection hc with h1 h2 h3
    subst h1; subst h2; subst h3
    have hm : mm = cap := by simpa using hmm
    subst hm
    have hall' : ∀ i, i < n → ∃ cs', W.cells? 0 (a'.add (i * 2)) 2 = some cs' ∧ DataW.trod enc Try.prog W 0 (fun _ => true) held k 28 cs' = some (D i, Pl i) := by
      intro i hi
      have := hall i (by omega)
      rw [czP] at this
      exact this
    clear hall
    have each : ∀ i, i < n → ∃ q : Int × Int, ∃ b o, a' = ⟨b, o, none⟩ ∧ W.cell? ⟨b, o + i * 2, none⟩ = some (.int .i64 q.1) ∧ W.cell? ⟨b, o + i * 2 + 1, none⟩ = some (.int .i64 q.2) := by
      intro i hi
      obtain ⟨cs', h1, h2⟩ := hall' i hi
      obtain ⟨_, hlen, hcell⟩ := World.cells?_some h1
      obtain ⟨c0, c1, rfl⟩ := lst2p hlen
      obtain ⟨x, y, rfl, rfl⟩ := pt_in h2
      obtain ⟨b, o, spot⟩ := a'
      have hs : spot = none := by
        have h0 := hall' 0 (by omega)
        obtain ⟨cs0, q1, q2⟩ := h0
        obtain ⟨_, ql, qc⟩ := World.cells?_some q1
        have q0 := qc 0 (by decide)
        obtain ⟨d0, d1, rfl⟩ := lst2p ql
        simpa [Addr.add] using World.cell?_spot q0
      subst hs
      have ad : ∀ j, ((⟨b, o, none⟩ : Addr).add (i * 2)).add j = ⟨b, o + i * 2 + j, none⟩ := by
        intro j
        rw [add_add, Addr.add_lit, Nat.add_assoc]
      refine ⟨(x, y), b, o, rfl, ?_, ?_⟩
      · have := hcell 0 (by decide)
        rw [ad] at this
        simpa using this
      · have := hcell 1 (by decide)
        rw [ad] at this
        simpa using this
    have fam : ∃ ls : List (Int × Int), ls.length = n ∧ ∀ i q, ls[i]? = some q → ∃ b o, a' = ⟨b, o, none⟩ ∧ W.cell? ⟨b, o + i * 2, none⟩ = some (.int .i64 q.1) ∧ W.cell? ⟨b, o + i * 2 + 1, none⟩ = some (.int .i64 q.2) := by
      obtain ⟨f, hf'⟩ := choose_lt each
      refine ⟨(List.range n).map f, by simp, fun i x hx => ?_⟩
      have hi : i < n := by
        have := (List.getElem?_eq_some_iff.1 hx).1
        simpa using this
      have : x = f i := by
        simp [hi] at hx
        exact hx.symm
      subst this
      exact hf' i hi
    obtain ⟨ls, rfl, hl'⟩ := fam
    refine ⟨ls, rfl, ?_, fun k x hx => ?_⟩
    · have hx := hcm
      unfold maxLen at hx
      exact Nat.le_trans hlc hx
    · obtain ⟨b, o, e, h⟩ := hl' k x hx
      exact ⟨b, o, by rw [e], h⟩
end Go.Proofs.Ytdfkkknkiioghaa

