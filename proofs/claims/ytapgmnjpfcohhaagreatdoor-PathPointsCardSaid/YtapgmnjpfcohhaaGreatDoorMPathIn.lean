/-
  A path that came in: its slice and its elements, out of what the row's reading says.
-/
import Derived.Test.YtapgmnjpfcohhaaGreatDoorMPathM
import Derived.Test.YtapgmnjpfcohhaaGreatDoorMSeqP
import Derived.Deep.Slices
import Derived.WalkKit
import Derived.ProofKit
import Derived.OpenShut
import Derived.Below
import Derived.ChangeSame
import Derived.Test.YtapgmnjpfcohhaaGreatDoorRows
import Derived.Deep.RegionHeld3
import Derived.Test.YtapgmnjpfcohhaaGreatDoorProg
import Derived.WalkSpells
import Derived.WalkLawsBesides
import Derived.Deep.QuietTactic
import Derived.BigQuiet
import Derived.Lib.ItoaNum
import Derived.Shelf.Small.Bits
import Derived.Shelf.Strconv.Itoa0
import Derived.Shelf.Bits.Mul64
import Derived.Shelf.Spec.BitsCarry
namespace Go.Proofs.YtapgmnjpfcohhaaGreatDoor
open Go.ChangeShapes Go.WideShapes Go.ChangeAt Go.RowKit Go.Deep
set_option linter.unusedVariables false
set_option linter.unusedSimpArgs false
theorem lst13 {α : Type} {l : List α} (h : l.length = 13) : ∃ c0 c1 c2 c3 c4 c5 c6 c7 c8 c9 c10 c11 c12 : α, l = [c0, c1, c2, c3, c4, c5, c6, c7, c8, c9, c10, c11, c12] := by
  match l, h with
  | [c0, c1, c2, c3, c4, c5, c6, c7, c8, c9, c10, c11, c12], _ => exact ⟨c0, c1, c2, c3, c4, c5, c6, c7, c8, c9, c10, c11, c12, rfl⟩
theorem czB : Tryz.prog.cellsOf 4 = 1 := by kernel_rfl
theorem czI : Tryz.prog.cellsOf 2 = 1 := by kernel_rfl
theorem czN : Tryz.prog.cellsOf 3 = 1 := by kernel_rfl
theorem czP : Tryz.prog.cellsOf 33 = 2 := by kernel_rfl
theorem czA : Tryz.prog.cellsOf 38 = 5 := by kernel_rfl
theorem czE : Tryz.prog.cellsOf 40 = 13 := by kernel_rfl
theorem czS : Tryz.prog.cellsOf 22 = 1 := by kernel_rfl
section
variable {H : Type} {enc : TypeId × Value → H} {W : World} {base : Nat} {sp : Nat → Bool} {held : Bool} {m : Nat}
theorem int_in {t : TypeId} (ht : Tryz.prog.underlying t = some (.int .i64)) {c : Value} {y : DataW H × List MemPlace} (h : DataW.trod enc Tryz.prog W base sp held m t [c] = some y) : ∃ n : Int, c = .int .i64 n := by
  obtain ⟨n, hn, _⟩ := DataW.trod_int ht h
  injection hn with hn
  exact ⟨n, hn⟩
theorem bool_in {t : TypeId} (ht : Tryz.prog.underlying t = some .bool) {c : Value} {y : DataW H × List MemPlace} (h : DataW.trod enc Tryz.prog W base sp held m t [c] = some y) : ∃ b : Bool, c = .bool b := by
  obtain ⟨n, hn, _⟩ := DataW.trod_bool ht h
  injection hn with hn
  exact ⟨n, hn⟩
theorem pt_in {c0 c1 : Value} {y : DataW H × List MemPlace} (h : DataW.trod enc Tryz.prog W base sp held m 33 [c0, c1] = some y) : ∃ x y : Int, c0 = .int .i64 x ∧ c1 = .int .i64 y := by
  obtain ⟨xs, n, _, _, hl, hxl, hf⟩ := DataW.trod_struct Tryz.underlying33 h
  have key : ∀ i, i < 2 → ∃ y, xs[i]? = some y := fun i hi => ⟨_, List.getElem?_eq_getElem (by rw [hxl]; exact hi)⟩
  obtain ⟨y0, e0⟩ := key 0 (by decide)
  have g0 : DataW.trod enc Tryz.prog W base sp held n 2 [c0] = some y0 := by
    have := hf 0 _ rfl
    rw [e0] at this
    simpa [czI] using this
  obtain ⟨y1, e1⟩ := key 1 (by decide)
  have g1 : DataW.trod enc Tryz.prog W base sp held n 2 [c1] = some y1 := by
    have := hf 1 _ rfl
    rw [e1] at this
    simpa [czI] using this
  obtain ⟨x, hx⟩ := int_in Tryz.underlying2 g0
  obtain ⟨y', hy⟩ := int_in Tryz.underlying2 g1
  exact ⟨x, y', hx, hy⟩
theorem arc_in {c0 c1 c2 c3 c4 : Value} {y : DataW H × List MemPlace} (h : DataW.trod enc Tryz.prog W base sp held m 38 [c0, c1, c2, c3, c4] = some y) : ∃ x y r f s : Int, c0 = .int .i64 x ∧ c1 = .int .i64 y ∧ c2 = .int .i64 r ∧ c3 = .int .i64 f ∧ c4 = .int .i64 s := by
  obtain ⟨xs, n, _, _, hl, hxl, hf⟩ := DataW.trod_struct Tryz.underlying38 h
  have key : ∀ i, i < 4 → ∃ y, xs[i]? = some y := fun i hi => ⟨_, List.getElem?_eq_getElem (by rw [hxl]; exact hi)⟩
  obtain ⟨y0, e0⟩ := key 0 (by decide)
  have g0 : DataW.trod enc Tryz.prog W base sp held n 33 [c0, c1] = some y0 := by
    have := hf 0 _ rfl
    rw [e0] at this
    simpa [czP] using this
  obtain ⟨y1, e1⟩ := key 1 (by decide)
  have g1 : DataW.trod enc Tryz.prog W base sp held n 2 [c2] = some y1 := by
    have := hf 1 _ rfl
    rw [e1] at this
    simpa [czI] using this
  obtain ⟨y2, e2⟩ := key 2 (by decide)
  have g2 : DataW.trod enc Tryz.prog W base sp held n 2 [c3] = some y2 := by
    have := hf 2 _ rfl
    rw [e2] at this
    simpa [czI] using this
  obtain ⟨y3, e3⟩ := key 3 (by decide)
  have g3 : DataW.trod enc Tryz.prog W base sp held n 2 [c4] = some y3 := by
    have := hf 3 _ rfl
    rw [e3] at this
    simpa [czI] using this
  obtain ⟨x, y', hx, hy⟩ := pt_in g0
  obtain ⟨r, hr⟩ := int_in Tryz.underlying2 g1
  obtain ⟨f, hf'⟩ := int_in Tryz.underlying2 g2
  obtain ⟨s, hs⟩ := int_in Tryz.underlying2 g3
  exact ⟨x, y', r, f, s, hx, hy, hr, hf', hs⟩
theorem el_in0 {c0 c1 c2 c3 c4 c5 c6 c7 c8 c9 c10 c11 c12 : Value} {y : DataW H × List MemPlace} (h : DataW.trod enc Tryz.prog W base sp held m 40 [c0, c1, c2, c3, c4, c5, c6, c7, c8, c9, c10, c11, c12] = some y) : ∃ x : El, [c0, c1, c2, c3, c4, c5, c6, c7, c8, c9, c10, c11, c12] = [.bool x.c, .int .i64 x.ax, .int .i64 x.ay, .int .i64 x.bx, .int .i64 x.b_y, .int .i64 x.cx, .int .i64 x.cy, .int .i64 x.r, .int .i64 x.f, .int .i64 x.s, .int .i64 x.L, .int .i64 x.n, .bool x.g] := by
  obtain ⟨xs, n, _, _, hl, hxl, hf⟩ := DataW.trod_struct Tryz.underlying40 h
  have key : ∀ i, i < 7 → ∃ y, xs[i]? = some y := fun i hi => ⟨_, List.getElem?_eq_getElem (by rw [hxl]; exact hi)⟩
  obtain ⟨y0, e0⟩ := key 0 (by decide)
  have g0 : DataW.trod enc Tryz.prog W base sp held n 4 [c0] = some y0 := by
    have := hf 0 _ rfl
    rw [e0] at this
    simpa [czB] using this
  obtain ⟨y1, e1⟩ := key 1 (by decide)
  have g1 : DataW.trod enc Tryz.prog W base sp held n 33 [c1, c2] = some y1 := by
    have := hf 1 _ rfl
    rw [e1] at this
    simpa [czP] using this
  obtain ⟨y2, e2⟩ := key 2 (by decide)
  have g2 : DataW.trod enc Tryz.prog W base sp held n 33 [c3, c4] = some y2 := by
    have := hf 2 _ rfl
    rw [e2] at this
    simpa [czP] using this
  obtain ⟨y3, e3⟩ := key 3 (by decide)
  have g3 : DataW.trod enc Tryz.prog W base sp held n 38 [c5, c6, c7, c8, c9] = some y3 := by
    have := hf 3 _ rfl
    rw [e3] at this
    simpa [czA] using this
  obtain ⟨y4, e4⟩ := key 4 (by decide)
  have g4 : DataW.trod enc Tryz.prog W base sp held n 2 [c10] = some y4 := by
    have := hf 4 _ rfl
    rw [e4] at this
    simpa [czI] using this
  obtain ⟨y5, e5⟩ := key 5 (by decide)
  have g5 : DataW.trod enc Tryz.prog W base sp held n 3 [c11] = some y5 := by
    have := hf 5 _ rfl
    rw [e5] at this
    simpa [czN] using this
  obtain ⟨y6, e6⟩ := key 6 (by decide)
  have g6 : DataW.trod enc Tryz.prog W base sp held n 4 [c12] = some y6 := by
    have := hf 6 _ rfl
    rw [e6] at this
    simpa [czB] using this
  obtain ⟨c, rfl⟩ := bool_in Tryz.underlying4 g0
  obtain ⟨ax, ay, rfl, rfl⟩ := pt_in g1
  obtain ⟨bx, b_y, rfl, rfl⟩ := pt_in g2
  obtain ⟨cx, cy, r, f, s, rfl, rfl, rfl, rfl, rfl⟩ := arc_in g3
  obtain ⟨L, rfl⟩ := int_in Tryz.underlying2 g4
  obtain ⟨n', rfl⟩ := int_in Tryz.underlying3 g5
  obtain ⟨g, rfl⟩ := bool_in Tryz.underlying4 g6
  exact ⟨⟨c, ax, ay, bx, b_y, cx, cy, r, f, s, L, n', g⟩, rfl⟩
theorem el_in {cs : List Value} {y : DataW H × List MemPlace} (h : DataW.trod enc Tryz.prog W base sp held m 40 cs = some y) (hl : cs.length = 13) : ∃ x : El, cs = [.bool x.c, .int .i64 x.ax, .int .i64 x.ay, .int .i64 x.bx, .int .i64 x.b_y, .int .i64 x.cx, .int .i64 x.cy, .int .i64 x.r, .int .i64 x.f, .int .i64 x.s, .int .i64 x.L, .int .i64 x.n, .bool x.g] := by
  obtain ⟨c0, c1, c2, c3, c4, c5, c6, c7, c8, c9, c10, c11, c12, rfl⟩ := lst13 hl
  exact el_in0 h
end
theorem path_in2 {H : Type} {enc : TypeId × Value → H} {W : World} {held : Bool} {v : Value} {d : DataW H} {ps : List MemPlace} (h : DataW.Trod enc Tryz.prog W 0 (fun _ => true) held 24 v d ps) (hv : ∃ c0 c1, v = .agg #[c0, c1]) :
    ∃ (S : Option Addr) (l : List El) (cap : Nat) (len : Int), v = .agg #[.slice S l.length cap, .int .i64 len] ∧ l.length ≤ 9223372036854775807 ∧ l.length ≤ cap ∧ pathAt W S l := by
  obtain ⟨c0, c1, rfl⟩ := hv
  obtain ⟨fuel, h⟩ := h
  have h : DataW.trod enc Tryz.prog W 0 (fun _ => true) held fuel 24 [c0, c1] = some (d, ps) := h
  obtain ⟨xs, n, _, _, hl, hxl, hf⟩ := DataW.trod_struct Tryz.underlying24 h
  have key : ∀ i, i < 2 → ∃ y, xs[i]? = some y := fun i hi => ⟨_, List.getElem?_eq_getElem (by rw [hxl]; exact hi)⟩
  obtain ⟨y0, e0⟩ := key 0 (by decide)
  obtain ⟨y1, e1⟩ := key 1 (by decide)
  have g0 : DataW.trod enc Tryz.prog W 0 (fun _ => true) held n 22 [c0] = some y0 := by
    have := hf 0 _ rfl
    rw [e0] at this
    simpa [czS] using this
  have g1 : DataW.trod enc Tryz.prog W 0 (fun _ => true) held n 2 [c1] = some y1 := by
    have := hf 1 _ rfl
    rw [e1] at this
    simpa [czI] using this
  obtain ⟨len, rfl⟩ := int_in Tryz.underlying2 g1
  rcases open_slice Tryz.underlying22 g0 with ⟨hc, _⟩ | ⟨a, ln, cap, mm, k, D, Pl, hc, _, hlc, hcm, hmm, _, hall⟩
  · injection hc with hc
    subst hc
    exact ⟨none, [], 0, len, rfl, by simp, by simp, fun k x hx => by simp at hx⟩
  · injection hc with hc
    subst hc
    have hm : mm = cap := by simpa using hmm
    subst hm
    have hall' : ∀ i, i < ln → ∃ cs', W.cells? 0 (a.add (i * 13)) 13 = some cs' ∧ DataW.trod enc Tryz.prog W 0 (fun _ => true) held k 40 cs' = some (D i, Pl i) := by
      intro i hi
      have := hall i (by omega)
      rw [czE] at this
      exact this
    clear hall
    have each : ∀ i, i < ln → ∃ x : El, ∃ b o, a = ⟨b, o, none⟩ ∧ elAt W b (o + i * 13) x := by
      intro i hi
      obtain ⟨cs', h1, h2⟩ := hall' i hi
      obtain ⟨_, hlen, hcell⟩ := World.cells?_some h1
      obtain ⟨x, rfl⟩ := el_in h2 hlen
      obtain ⟨b, o, spot⟩ := a
      have c0 := hcell 0 (by decide)
      have hsp := World.cell?_spot c0
      refine ⟨x, b, o, ?_, ?_⟩
      · have : spot = none := by
          by_cases hz : i * 13 = 0
          · simpa [Addr.add, hz] using hsp
          · have h0 := hall' 0 (by omega)
            obtain ⟨cs0, q1, q2⟩ := h0
            obtain ⟨_, ql, qc⟩ := World.cells?_some q1
            have q0 := qc 0 (by decide)
            obtain ⟨x0, rfl⟩ := el_in q2 ql
            simpa [Addr.add] using World.cell?_spot q0
        rw [this]
      · have hs : spot = none := by
          have h0 := hall' 0 (by omega)
          obtain ⟨cs0, q1, q2⟩ := h0
          obtain ⟨_, ql, qc⟩ := World.cells?_some q1
          have q0 := qc 0 (by decide)
          obtain ⟨x0, rfl⟩ := el_in q2 ql
          simpa [Addr.add] using World.cell?_spot q0
        subst hs
        have ad : ∀ j, ((⟨b, o, none⟩ : Addr).add (i * 13)).add j = ⟨b, o + i * 13 + j, none⟩ := by
          intro j
          rw [add_add, Addr.add_lit, Nat.add_assoc]
        unfold elAt
        refine ⟨?_, ?_, ?_, ?_, ?_, ?_, ?_, ?_, ?_, ?_, ?_, ?_, ?_⟩
        · have := hcell 0 (by decide)
          rw [ad] at this
          simpa using this
        · have := hcell 1 (by decide)
          rw [ad] at this
          simpa using this
        · have := hcell 2 (by decide)
          rw [ad] at this
          simpa using this
        · have := hcell 3 (by decide)
          rw [ad] at this
          simpa using this
        · have := hcell 4 (by decide)
          rw [ad] at this
          simpa using this
        · have := hcell 5 (by decide)
          rw [ad] at this
          simpa using this
        · have := hcell 6 (by decide)
          rw [ad] at this
          simpa using this
        · have := hcell 7 (by decide)
          rw [ad] at this
          simpa using this
        · have := hcell 8 (by decide)
          rw [ad] at this
          simpa using this
        · have := hcell 9 (by decide)
          rw [ad] at this
          simpa using this
        · have := hcell 10 (by decide)
          rw [ad] at this
          simpa using this
        · have := hcell 11 (by decide)
          rw [ad] at this
          simpa using this
        · have := hcell 12 (by decide)
          rw [ad] at this
          simpa using this
    have fam : ∃ l : List El, l.length = ln ∧ ∀ i x, l[i]? = some x → ∃ b o, a = ⟨b, o, none⟩ ∧ elAt W b (o + i * 13) x := by
      haveI : Inhabited El := ⟨⟨false, 0, 0, 0, 0, 0, 0, 0, 0, 0, 0, 0, false⟩⟩
      obtain ⟨f, hf'⟩ := choose_lt each
      refine ⟨(List.range ln).map f, by simp, fun i x hx => ?_⟩
      have hi : i < ln := by
        have := (List.getElem?_eq_some_iff.1 hx).1
        simpa using this
      have : x = f i := by
        simp [hi] at hx
        exact hx.symm
      subst this
      exact hf' i hi
    obtain ⟨l, rfl, hl'⟩ := fam
    refine ⟨some a, l, mm, len, rfl, ?_, hlc, fun k x hx => ?_⟩
    · have hx := hcm
      unfold maxLen at hx
      exact Nat.le_trans hlc hx
    · obtain ⟨b, o, e, h⟩ := hl' k x hx
      exact ⟨b, o, by rw [e], h⟩
theorem path_in {H : Type} {enc : TypeId × Value → H} {W : World} {held : Bool} {v : Value} {d : DataW H} {ps : List MemPlace} (h : DataW.Trod enc Tryz.prog W 0 (fun _ => true) held 24 v d ps) (hv : ∃ c0 c1, v = .agg #[c0, c1]) :
    ∃ (S : Option Addr) (l : List El) (cap : Nat) (len : Int), v = .agg #[.slice S l.length cap, .int .i64 len] ∧ l.length ≤ 9223372036854775807 ∧ pathAt W S l := by
  obtain ⟨S, l, cap, len, h1, h2, _, h3⟩ := path_in2 h hv
  exact ⟨S, l, cap, len, h1, h2, h3⟩
end Go.Proofs.YtapgmnjpfcohhaaGreatDoor
