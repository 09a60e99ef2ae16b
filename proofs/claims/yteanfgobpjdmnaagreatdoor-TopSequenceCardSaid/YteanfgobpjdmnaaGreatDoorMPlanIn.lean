/-
  A plan that came in: its strings, its slice and its entries, out of what the row's reading says.
-/
import Derived.Test.YteanfgobpjdmnaaGreatDoorMPlan3
import Derived.Deep.Slices
namespace Go.Proofs.YteanfgobpjdmnaaGreatDoor
open Go.ChangeShapes Go.WideShapes Go.ChangeAt Go.RowKit Go.Deep
set_option linter.unusedVariables false
set_option linter.unusedSimpArgs false
theorem pH {α : Type} [Inhabited α] {n : Nat} {p : Nat → α → Prop} (h : ∀ i, i < n → ∃ x, p i x) : ∃ f : Nat → α, ∀ i, i < n → p i (f i) := by
 refine ⟨fun i => if hi : i < n then Classical.choose (h i hi) else default, fun i hi => ?_⟩
 simp only [dif_pos hi]
 exact Classical.choose_spec (h i hi)
theorem eY (a : Addr) (i j : Nat) : (a.add i).add j = a.add (i + j) := by
 unfold Addr.add
 rcases a with ⟨b, o, s⟩
 split <;> split <;> (try split) <;> simp_all <;> omega
theorem uC : Tryz.prog.cellsOf 4 = 1 := by kernel_rfl
theorem uD : Tryz.prog.cellsOf 36 = 13 := by kernel_rfl
theorem uE : Tryz.prog.cellsOf 26 = 2 := by kernel_rfl
theorem uF : Tryz.prog.cellsOf 37 = 1 := by kernel_rfl
theorem uG : Tryz.prog.cellsOf 9 = 1 := by kernel_rfl
theorem uH : Tryz.prog.cellsOf 32 = 1 := by kernel_rfl
theorem uI : Tryz.prog.cellsOf 5 = 1 := by kernel_rfl
theorem uJ : Tryz.prog.cellsOf 34 = 2 := by kernel_rfl
theorem uK : Tryz.prog.cellsOf 2 = 1 := by kernel_rfl
theorem uO : Tryz.prog.cellsOf 3 = 1 := by kernel_rfl
theorem yM : Tryz.prog.cellsOf 39 = 20 := by kernel_rfl
theorem yP : Tryz.prog.cellsOf 22 = 1 := by kernel_rfl
theorem yQ : Tryz.prog.cellsOf 24 = 4 := by kernel_rfl
section
variable {H : Type} {enc : TypeId × Value → H} {W : World} {base : Nat} {sp : Nat → Bool} {held : Bool} {m : Nat}
theorem VV {t : TypeId} (ht : Tryz.prog.underlying t = some (.int .i64)) {c : Value} {y : DataW H × List MemPlace} (h : DataW.trod enc Tryz.prog W base sp held m t [c] = some y) : ∃ n : Int, c = .int .i64 n ∧ qH n := by
 obtain ⟨n, hn, _, hw⟩ := DataW.trod_int ht h
 injection hn with hn
 refine ⟨n, hn, ?_⟩
 simp [Lit.wf, IntKind.has, IntKind.min, IntKind.max, IntKind.signed, IntKind.bits] at hw
 unfold qH
 omega
theorem MT {t : TypeId} (ht : Tryz.prog.underlying t = some (.int .u8)) {c : Value} {y : DataW H × List MemPlace} (h : DataW.trod enc Tryz.prog W base sp held m t [c] = some y) : ∃ n : Int, c = .int .u8 n ∧ 0 ≤ n ∧ n ≤ 255 := by
 obtain ⟨n, hn, _, hw⟩ := DataW.trod_int ht h
 injection hn with hn
 refine ⟨n, hn, ?_⟩
 simp [Lit.wf, IntKind.has, IntKind.min, IntKind.max, IntKind.signed, IntKind.bits] at hw
 omega
theorem CI {t : TypeId} (ht : Tryz.prog.underlying t = some .bool) {c : Value} {y : DataW H × List MemPlace} (h : DataW.trod enc Tryz.prog W base sp held m t [c] = some y) : ∃ n : Bool, c = .bool n ∧ True := by
 obtain ⟨n, hn, _⟩ := DataW.trod_bool ht h
 injection hn with hn
 exact ⟨n, hn, trivial⟩
theorem ia {t : TypeId} (ht : Tryz.prog.underlying t = some .string) {c : Value} {y : DataW H × List MemPlace} (h : DataW.trod enc Tryz.prog W base sp held m t [c] = some y) : ∃ n : ByteArray, c = .string n ∧ n.size ≤ maxLen := by
 obtain ⟨n, hn, _, hw⟩ := DataW.trod_string ht h
 injection hn with hn
 exact ⟨n, hn, hw⟩
theorem Nm {c0 c1 : Value} {y : DataW H × List MemPlace} (h : DataW.trod enc Tryz.prog W base sp held m 26 [c0, c1] = some y) : ∃ (v0 : Int) (v1 : Int), (c0 = .int .i64 v0 ∧ qH v0) ∧ (c1 = .int .i64 v1 ∧ qH v1) := by
 obtain ⟨xs, n, _, _, hl, hxl, hf⟩ := DataW.trod_struct Tryz.underlying26 h
 have key : ∀ i, i < 2 → ∃ y, xs[i]? = some y := fun i hi => ⟨_, List.getElem?_eq_getElem (by rw [hxl]; exact hi)⟩
 obtain ⟨y0, e0⟩ := key 0 (by decide)
 have g0 : DataW.trod enc Tryz.prog W base sp held n 2 [c0] = some y0 := by
  have := hf 0 _ rfl
  rw [e0] at this
  simpa [uC, uD, uE, uF, uG, uH, uI, uJ, uK, uO, yM, yP, yQ] using this
 obtain ⟨v0, h0⟩ := VV Tryz.underlying2 g0
 obtain ⟨y1, e1⟩ := key 1 (by decide)
 have g1 : DataW.trod enc Tryz.prog W base sp held n 2 [c1] = some y1 := by
  have := hf 1 _ rfl
  rw [e1] at this
  simpa [uC, uD, uE, uF, uG, uH, uI, uJ, uK, uO, yM, yP, yQ] using this
 obtain ⟨v1, h1⟩ := VV Tryz.underlying2 g1
 exact ⟨v0, v1, h0, h1⟩
theorem CJ {c0 c1 : Value} {y : DataW H × List MemPlace} (h : DataW.trod enc Tryz.prog W base sp held m 34 [c0, c1] = some y) : ∃ (v0 : Int) (v1 : Int), (c0 = .int .i64 v0 ∧ qH v0) ∧ (c1 = .int .i64 v1 ∧ qH v1) := by
 obtain ⟨xs, n, _, _, hl, hxl, hf⟩ := DataW.trod_struct Tryz.underlying34 h
 have key : ∀ i, i < 2 → ∃ y, xs[i]? = some y := fun i hi => ⟨_, List.getElem?_eq_getElem (by rw [hxl]; exact hi)⟩
 obtain ⟨y0, e0⟩ := key 0 (by decide)
 have g0 : DataW.trod enc Tryz.prog W base sp held n 2 [c0] = some y0 := by
  have := hf 0 _ rfl
  rw [e0] at this
  simpa [uC, uD, uE, uF, uG, uH, uI, uJ, uK, uO, yM, yP, yQ] using this
 obtain ⟨v0, h0⟩ := VV Tryz.underlying2 g0
 obtain ⟨y1, e1⟩ := key 1 (by decide)
 have g1 : DataW.trod enc Tryz.prog W base sp held n 2 [c1] = some y1 := by
  have := hf 1 _ rfl
  rw [e1] at this
  simpa [uC, uD, uE, uF, uG, uH, uI, uJ, uK, uO, yM, yP, yQ] using this
 obtain ⟨v1, h1⟩ := VV Tryz.underlying2 g1
 exact ⟨v0, v1, h0, h1⟩
theorem CL {c0 c1 c2 c3 c4 c5 c6 c7 c8 c9 c10 c11 c12 : Value} {y : DataW H × List MemPlace} (h : DataW.trod enc Tryz.prog W base sp held m 36 [c0, c1, c2, c3, c4, c5, c6, c7, c8, c9, c10, c11, c12] = some y) : ∃ (v0 : Int) (v1 : ByteArray) (v2 : ByteArray) (v3 : Int) (v4 : Bool) (v5 : Int) (v6 : Int) (v7 : Int) (v8 : Int) (v9 : Int) (v10 : Int) (v11 : Int) (v12 : Int), (c0 = .int .u8 v0 ∧ 0 ≤ v0 ∧ v0 ≤ 255) ∧ (c1 = .string v1 ∧ v1.size ≤ maxLen) ∧ (c2 = .string v2 ∧ v2.size ≤ maxLen) ∧ (c3 = .int .u8 v3 ∧ 0 ≤ v3 ∧ v3 ≤ 255) ∧ (c4 = .bool v4 ∧ True) ∧ (c5 = .int .i64 v5 ∧ qH v5) ∧ (c6 = .int .i64 v6 ∧ qH v6) ∧ (c7 = .int .i64 v7 ∧ qH v7) ∧ (c8 = .int .i64 v8 ∧ qH v8) ∧ (c9 = .int .i64 v9 ∧ qH v9) ∧ (c10 = .int .i64 v10 ∧ qH v10) ∧ (c11 = .int .i64 v11 ∧ qH v11) ∧ (c12 = .int .i64 v12 ∧ qH v12) := by
 obtain ⟨xs, n, _, _, hl, hxl, hf⟩ := DataW.trod_struct Tryz.underlying36 h
 have key : ∀ i, i < 12 → ∃ y, xs[i]? = some y := fun i hi => ⟨_, List.getElem?_eq_getElem (by rw [hxl]; exact hi)⟩
 obtain ⟨y0, e0⟩ := key 0 (by decide)
 have g0 : DataW.trod enc Tryz.prog W base sp held n 32 [c0] = some y0 := by
  have := hf 0 _ rfl
  rw [e0] at this
  simpa [uC, uD, uE, uF, uG, uH, uI, uJ, uK, uO, yM, yP, yQ] using this
 obtain ⟨v0, h0⟩ := MT Tryz.underlying32 g0
 obtain ⟨y1, e1⟩ := key 1 (by decide)
 have g1 : DataW.trod enc Tryz.prog W base sp held n 9 [c1] = some y1 := by
  have := hf 1 _ rfl
  rw [e1] at this
  simpa [uC, uD, uE, uF, uG, uH, uI, uJ, uK, uO, yM, yP, yQ] using this
 obtain ⟨v1, h1⟩ := ia Tryz.underlying9 g1
 obtain ⟨y2, e2⟩ := key 2 (by decide)
 have g2 : DataW.trod enc Tryz.prog W base sp held n 9 [c2] = some y2 := by
  have := hf 2 _ rfl
  rw [e2] at this
  simpa [uC, uD, uE, uF, uG, uH, uI, uJ, uK, uO, yM, yP, yQ] using this
 obtain ⟨v2, h2⟩ := ia Tryz.underlying9 g2
 obtain ⟨y3, e3⟩ := key 3 (by decide)
 have g3 : DataW.trod enc Tryz.prog W base sp held n 5 [c3] = some y3 := by
  have := hf 3 _ rfl
  rw [e3] at this
  simpa [uC, uD, uE, uF, uG, uH, uI, uJ, uK, uO, yM, yP, yQ] using this
 obtain ⟨v3, h3⟩ := MT Tryz.underlying5 g3
 obtain ⟨y4, e4⟩ := key 4 (by decide)
 have g4 : DataW.trod enc Tryz.prog W base sp held n 4 [c4] = some y4 := by
  have := hf 4 _ rfl
  rw [e4] at this
  simpa [uC, uD, uE, uF, uG, uH, uI, uJ, uK, uO, yM, yP, yQ] using this
 obtain ⟨v4, h4⟩ := CI Tryz.underlying4 g4
 obtain ⟨y5, e5⟩ := key 5 (by decide)
 have g5 : DataW.trod enc Tryz.prog W base sp held n 2 [c5] = some y5 := by
  have := hf 5 _ rfl
  rw [e5] at this
  simpa [uC, uD, uE, uF, uG, uH, uI, uJ, uK, uO, yM, yP, yQ] using this
 obtain ⟨v5, h5⟩ := VV Tryz.underlying2 g5
 obtain ⟨y6, e6⟩ := key 6 (by decide)
 have g6 : DataW.trod enc Tryz.prog W base sp held n 2 [c6] = some y6 := by
  have := hf 6 _ rfl
  rw [e6] at this
  simpa [uC, uD, uE, uF, uG, uH, uI, uJ, uK, uO, yM, yP, yQ] using this
 obtain ⟨v6, h6⟩ := VV Tryz.underlying2 g6
 obtain ⟨y7, e7⟩ := key 7 (by decide)
 have g7 : DataW.trod enc Tryz.prog W base sp held n 2 [c7] = some y7 := by
  have := hf 7 _ rfl
  rw [e7] at this
  simpa [uC, uD, uE, uF, uG, uH, uI, uJ, uK, uO, yM, yP, yQ] using this
 obtain ⟨v7, h7⟩ := VV Tryz.underlying2 g7
 obtain ⟨y8, e8⟩ := key 8 (by decide)
 have g8 : DataW.trod enc Tryz.prog W base sp held n 2 [c8] = some y8 := by
  have := hf 8 _ rfl
  rw [e8] at this
  simpa [uC, uD, uE, uF, uG, uH, uI, uJ, uK, uO, yM, yP, yQ] using this
 obtain ⟨v8, h8⟩ := VV Tryz.underlying2 g8
 obtain ⟨y9, e9⟩ := key 9 (by decide)
 have g9 : DataW.trod enc Tryz.prog W base sp held n 34 [c9, c10] = some y9 := by
  have := hf 9 _ rfl
  rw [e9] at this
  simpa [uC, uD, uE, uF, uG, uH, uI, uJ, uK, uO, yM, yP, yQ] using this
 obtain ⟨v9, v10, h9, h10⟩ := CJ g9
 obtain ⟨y10, e10⟩ := key 10 (by decide)
 have g10 : DataW.trod enc Tryz.prog W base sp held n 2 [c11] = some y10 := by
  have := hf 10 _ rfl
  rw [e10] at this
  simpa [uC, uD, uE, uF, uG, uH, uI, uJ, uK, uO, yM, yP, yQ] using this
 obtain ⟨v11, h11⟩ := VV Tryz.underlying2 g10
 obtain ⟨y11, e11⟩ := key 11 (by decide)
 have g11 : DataW.trod enc Tryz.prog W base sp held n 2 [c12] = some y11 := by
  have := hf 11 _ rfl
  rw [e11] at this
  simpa [uC, uD, uE, uF, uG, uH, uI, uJ, uK, uO, yM, yP, yQ] using this
 obtain ⟨v12, h12⟩ := VV Tryz.underlying2 g11
 exact ⟨v0, v1, v2, v3, v4, v5, v6, v7, v8, v9, v10, v11, v12, h0, h1, h2, h3, h4, h5, h6, h7, h8, h9, h10, h11, h12⟩
theorem CP {c0 c1 c2 c3 c4 c5 c6 c7 c8 c9 c10 c11 c12 c13 c14 c15 c16 c17 c18 c19 : Value} {y : DataW H × List MemPlace} (h : DataW.trod enc Tryz.prog W base sp held m 39 [c0, c1, c2, c3, c4, c5, c6, c7, c8, c9, c10, c11, c12, c13, c14, c15, c16, c17, c18, c19] = some y) : ∃ (v0 : Bool) (v1 : Int) (v2 : ByteArray) (v3 : ByteArray) (v4 : Int) (v5 : Bool) (v6 : Int) (v7 : Int) (v8 : Int) (v9 : Int) (v10 : Int) (v11 : Int) (v12 : Int) (v13 : Int) (v14 : Int) (v15 : Int) (v16 : Int) (v17 : Int) (v18 : Int) (v19 : ByteArray), (c0 = .bool v0 ∧ True) ∧ (c1 = .int .u8 v1 ∧ 0 ≤ v1 ∧ v1 ≤ 255) ∧ (c2 = .string v2 ∧ v2.size ≤ maxLen) ∧ (c3 = .string v3 ∧ v3.size ≤ maxLen) ∧ (c4 = .int .u8 v4 ∧ 0 ≤ v4 ∧ v4 ≤ 255) ∧ (c5 = .bool v5 ∧ True) ∧ (c6 = .int .i64 v6 ∧ qH v6) ∧ (c7 = .int .i64 v7 ∧ qH v7) ∧ (c8 = .int .i64 v8 ∧ qH v8) ∧ (c9 = .int .i64 v9 ∧ qH v9) ∧ (c10 = .int .i64 v10 ∧ qH v10) ∧ (c11 = .int .i64 v11 ∧ qH v11) ∧ (c12 = .int .i64 v12 ∧ qH v12) ∧ (c13 = .int .i64 v13 ∧ qH v13) ∧ (c14 = .int .i64 v14 ∧ qH v14) ∧ (c15 = .int .i64 v15 ∧ qH v15) ∧ (c16 = .int .i64 v16 ∧ qH v16) ∧ (c17 = .int .i64 v17 ∧ qH v17) ∧ (c18 = .int .u8 v18 ∧ 0 ≤ v18 ∧ v18 ≤ 255) ∧ (c19 = .string v19 ∧ v19.size ≤ maxLen) := by
 obtain ⟨xs, n, _, _, hl, hxl, hf⟩ := DataW.trod_struct Tryz.underlying39 h
 have key : ∀ i, i < 6 → ∃ y, xs[i]? = some y := fun i hi => ⟨_, List.getElem?_eq_getElem (by rw [hxl]; exact hi)⟩
 obtain ⟨y0, e0⟩ := key 0 (by decide)
 have g0 : DataW.trod enc Tryz.prog W base sp held n 4 [c0] = some y0 := by
  have := hf 0 _ rfl
  rw [e0] at this
  simpa [uC, uD, uE, uF, uG, uH, uI, uJ, uK, uO, yM, yP, yQ] using this
 obtain ⟨v0, h0⟩ := CI Tryz.underlying4 g0
 obtain ⟨y1, e1⟩ := key 1 (by decide)
 have g1 : DataW.trod enc Tryz.prog W base sp held n 36 [c1, c2, c3, c4, c5, c6, c7, c8, c9, c10, c11, c12, c13] = some y1 := by
  have := hf 1 _ rfl
  rw [e1] at this
  simpa [uC, uD, uE, uF, uG, uH, uI, uJ, uK, uO, yM, yP, yQ] using this
 obtain ⟨v1, v2, v3, v4, v5, v6, v7, v8, v9, v10, v11, v12, v13, h1, h2, h3, h4, h5, h6, h7, h8, h9, h10, h11, h12, h13⟩ := CL g1
 obtain ⟨y2, e2⟩ := key 2 (by decide)
 have g2 : DataW.trod enc Tryz.prog W base sp held n 26 [c14, c15] = some y2 := by
  have := hf 2 _ rfl
  rw [e2] at this
  simpa [uC, uD, uE, uF, uG, uH, uI, uJ, uK, uO, yM, yP, yQ] using this
 obtain ⟨v14, v15, h14, h15⟩ := Nm g2
 obtain ⟨y3, e3⟩ := key 3 (by decide)
 have g3 : DataW.trod enc Tryz.prog W base sp held n 26 [c16, c17] = some y3 := by
  have := hf 3 _ rfl
  rw [e3] at this
  simpa [uC, uD, uE, uF, uG, uH, uI, uJ, uK, uO, yM, yP, yQ] using this
 obtain ⟨v16, v17, h16, h17⟩ := Nm g3
 obtain ⟨y4, e4⟩ := key 4 (by decide)
 have g4 : DataW.trod enc Tryz.prog W base sp held n 37 [c18] = some y4 := by
  have := hf 4 _ rfl
  rw [e4] at this
  simpa [uC, uD, uE, uF, uG, uH, uI, uJ, uK, uO, yM, yP, yQ] using this
 obtain ⟨v18, h18⟩ := MT Tryz.underlying37 g4
 obtain ⟨y5, e5⟩ := key 5 (by decide)
 have g5 : DataW.trod enc Tryz.prog W base sp held n 9 [c19] = some y5 := by
  have := hf 5 _ rfl
  rw [e5] at this
  simpa [uC, uD, uE, uF, uG, uH, uI, uJ, uK, uO, yM, yP, yQ] using this
 obtain ⟨v19, h19⟩ := ia Tryz.underlying9 g5
 exact ⟨v0, v1, v2, v3, v4, v5, v6, v7, v8, v9, v10, v11, v12, v13, v14, v15, v16, v17, v18, v19, h0, h1, h2, h3, h4, h5, h6, h7, h8, h9, h10, h11, h12, h13, h14, h15, h16, h17, h18, h19⟩
theorem ic {cs : List Value} {y : DataW H × List MemPlace} (h : DataW.trod enc Tryz.prog W base sp held m 39 cs = some y) (hl : cs.length = 20) : ∃ x : En, cs = x.cells ∧ pK x := by
 obtain ⟨c0, c1, c2, c3, c4, c5, c6, c7, c8, c9, c10, c11, c12, c13, c14, c15, c16, c17, c18, c19, rfl⟩ := Fh hl
 obtain ⟨v0, v1, v2, v3, v4, v5, v6, v7, v8, v9, v10, v11, v12, v13, v14, v15, v16, v17, v18, v19, ⟨rfl, h0⟩, ⟨rfl, h1⟩, ⟨rfl, h2⟩, ⟨rfl, h3⟩, ⟨rfl, h4⟩, ⟨rfl, h5⟩, ⟨rfl, h6⟩, ⟨rfl, h7⟩, ⟨rfl, h8⟩, ⟨rfl, h9⟩, ⟨rfl, h10⟩, ⟨rfl, h11⟩, ⟨rfl, h12⟩, ⟨rfl, h13⟩, ⟨rfl, h14⟩, ⟨rfl, h15⟩, ⟨rfl, h16⟩, ⟨rfl, h17⟩, ⟨rfl, h18⟩, ⟨rfl, h19⟩⟩ := CP h
 exact ⟨⟨v0, v1, v2, v3, v4, v5, v6, v7, v8, v9, v10, v11, v12, v13, v14, v15, v16, v17, v18, v19⟩, rfl, ⟨⟨⟨h1, h4, h2, h3⟩, h6, h14, h15⟩, h7, h8, h9, h10, h11, h12, h13, h16, h17, h18, h19⟩⟩
end
theorem BK {H : Type} {enc : TypeId × Value → H} {W : World} {held : Bool} {v : Value} {d : DataW H} {ps : List MemPlace} (h : DataW.Trod enc Tryz.prog W 0 (fun _ => true) held 24 v d ps) (hv : ∃ c0 c1 c2 c3, v = .agg #[c0, c1, c2, c3]) :
 ∃ (pa pb : ByteArray) (S : Option Addr) (l : List En) (cap : Nat) (act : Int), v = .agg #[.string pa, .string pb, .slice S l.length cap, .int .i64 act] ∧ pa.size ≤ maxLen ∧ pb.size ≤ maxLen ∧ l.length ≤ 9223372036854775807 ∧ qH act ∧ xk W S l ∧ ∀ (k : Nat) (x : En), l[k]? = some x → pK x := by
 obtain ⟨c0, c1, c2, c3, rfl⟩ := hv
 obtain ⟨fuel, h⟩ := h
 have h : DataW.trod enc Tryz.prog W 0 (fun _ => true) held fuel 24 [c0, c1, c2, c3] = some (d, ps) := h
 obtain ⟨xs, n, _, _, hl, hxl, hf⟩ := DataW.trod_struct Tryz.underlying24 h
 have key : ∀ i, i < 4 → ∃ y, xs[i]? = some y := fun i hi => ⟨_, List.getElem?_eq_getElem (by rw [hxl]; exact hi)⟩
 obtain ⟨y0, e0⟩ := key 0 (by decide)
 have g0 : DataW.trod enc Tryz.prog W 0 (fun _ => true) held n 9 [c0] = some y0 := by
  have := hf 0 _ rfl
  rw [e0] at this
  simpa [uC, uD, uE, uF, uG, uH, uI, uJ, uK, uO, yM, yP, yQ] using this
 obtain ⟨y1, e1⟩ := key 1 (by decide)
 have g1 : DataW.trod enc Tryz.prog W 0 (fun _ => true) held n 9 [c1] = some y1 := by
  have := hf 1 _ rfl
  rw [e1] at this
  simpa [uC, uD, uE, uF, uG, uH, uI, uJ, uK, uO, yM, yP, yQ] using this
 obtain ⟨y2, e2⟩ := key 2 (by decide)
 have g2 : DataW.trod enc Tryz.prog W 0 (fun _ => true) held n 22 [c2] = some y2 := by
  have := hf 2 _ rfl
  rw [e2] at this
  simpa [uC, uD, uE, uF, uG, uH, uI, uJ, uK, uO, yM, yP, yQ] using this
 obtain ⟨y3, e3⟩ := key 3 (by decide)
 have g3 : DataW.trod enc Tryz.prog W 0 (fun _ => true) held n 3 [c3] = some y3 := by
  have := hf 3 _ rfl
  rw [e3] at this
  simpa [uC, uD, uE, uF, uG, uH, uI, uJ, uK, uO, yM, yP, yQ] using this
 obtain ⟨pa, rfl, ha⟩ := ia Tryz.underlying9 g0
 obtain ⟨pb, rfl, hb⟩ := ia Tryz.underlying9 g1
 obtain ⟨act, rfl, hc⟩ := VV Tryz.underlying3 g3
 rcases open_slice Tryz.underlying22 g2 with ⟨hc2, _⟩ | ⟨a, ln, cap, mm, k, D, Pl, hc2, _, hlc, hcm, hmm, _, hall⟩
 · injection hc2 with hc2
   subst hc2
   exact ⟨pa, pb, none, [], 0, act, rfl, ha, hb, by simp, hc, fun k x hx => by simp at hx, fun k x hx => by simp at hx⟩
 · injection hc2 with hc2
   subst hc2
   have hm : mm = cap := by simpa using hmm
   subst hm
   have hall' : ∀ i, i < ln → ∃ cs', W.cells? 0 (a.add (i * 20)) 20 = some cs' ∧ DataW.trod enc Tryz.prog W 0 (fun _ => true) held k 39 cs' = some (D i, Pl i) := by
    intro i hi
    have := hall i (by omega)
    rw [yM] at this
    exact this
   clear hall
   have flat : ∀ i, i < ln → a.3 = none := by
    intro i hi
    obtain ⟨cs0, q1, q2⟩ := hall' 0 (by omega)
    obtain ⟨_, ql, qc⟩ := World.cells?_some q1
    obtain ⟨x0, rfl, _⟩ := ic q2 ql
    have q0 := qc 0 (by decide)
    have hs := World.cell?_spot q0
    obtain ⟨b, o, spot⟩ := a
    simpa [Addr.add] using hs
   have each : ∀ i, i < ln → ∃ x : En, pK x ∧ ∃ b o, a = ⟨b, o, none⟩ ∧ uy W b (o + i * 20) x := by
    intro i hi
    obtain ⟨cs', h1, h2⟩ := hall' i hi
    obtain ⟨_, hlen, hcell⟩ := World.cells?_some h1
    obtain ⟨x, rfl, hx⟩ := ic h2 hlen
    have hs := flat i hi
    obtain ⟨b, o, spot⟩ := a
    dsimp only at hs
    subst hs
    refine ⟨x, hx, b, o, rfl, fun j v hj => ?_⟩
    have hj20 : j < 20 := by
     have := (List.getElem?_eq_some_iff.1 hj).1
     simpa [En.cells] using this
    have h3 := hcell j hj20
    have ad : ((⟨b, o, none⟩ : Addr).add (i * 20)).add j = ⟨b, o + i * 20 + j, none⟩ := by rw [eY, Addr.add_lit, Nat.add_assoc]
    rw [ad] at h3
    rw [h3]
    obtain ⟨hj2, rfl⟩ := List.getElem?_eq_some_iff.1 hj
    simp
   have fam : ∃ l : List En, l.length = ln ∧ ∀ i x, l[i]? = some x → pK x ∧ ∃ b o, a = ⟨b, o, none⟩ ∧ uy W b (o + i * 20) x := by
    haveI : Inhabited En := ⟨JN⟩
    obtain ⟨f, hf'⟩ := pH each
    refine ⟨(List.range ln).map f, by simp, fun i x hx => ?_⟩
    have hi : i < ln := by
     have := (List.getElem?_eq_some_iff.1 hx).1
     simpa using this
    rw [List.getElem?_map, List.getElem?_range hi] at hx
    injection hx with hx
    subst hx
    exact hf' i hi
   obtain ⟨l, rfl, hl2⟩ := fam
   refine ⟨pa, pb, some a, l, mm, act, rfl, ha, hb, ?_, hc, fun k x hx => ?_, fun k x hx => (hl2 k x hx).1⟩
   · unfold maxLen at hcm
     omega
   · obtain ⟨_, b, o, rfl, h2⟩ := hl2 k x hx
     exact ⟨b, o, rfl, h2⟩
end Go.Proofs.YteanfgobpjdmnaaGreatDoor
