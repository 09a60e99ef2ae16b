/-
  A law's parameter that is an entry of a plan: its cells, out of what the row's reading says.
-/
import Derived.Test.YtjjdojokkmfbmaaGreatDoorMFrame
import Derived.Test.YtjjdojokkmfbmaaGreatDoorMResD
import Derived.Test.YtjjdojokkmfbmaaGreatDoorMResP
import Derived.Test.YtjjdojokkmfbmaaGreatDoorRows
import Derived.LaidMore
import Derived.LaidLaws
import Derived.LaidHandle
import Derived.MakeChecks
import Derived.OpenShut
import Derived.ProofKit
import Derived.WalkKit
import Derived.Below
import Derived.ChangeSame
import Derived.Laws.Rows
import Derived.Laws.Tables
import Derived.Laws.Cells
import Derived.Deep.Draws
import Derived.Deep.RegionHeld
import Derived.Deep.DeepCutAuto
import Derived.Lib.Bytealg
import Derived.Lib.Strings
import Derived.Laws.Strings3
import Derived.Deep.RegionHeld3
import Derived.Test.YtjjdojokkmfbmaaGreatDoorProg
import Derived.WalkSpells
import Derived.WalkLawsBesides
import Derived.Deep.QuietTactic
import Derived.BigQuiet
import Derived.Lib.ItoaNum
import Derived.Shelf.Small.Bits
import Derived.Shelf.Strconv.Itoa0
import Derived.Shelf.Bits.Mul64
import Derived.Shelf.Spec.BitsCarry
import Derived.Laws.BitsAllLaws
namespace Go.Proofs.YtjjdojokkmfbmaaGreatDoor
open Go.ChangeShapes Go.WideShapes Go.ChangeAt Go.RowKit
set_option linter.unusedVariables false
/-- all that the fields of an entry can be -/
structure EnX (x : En) : Prop where
  w : EnW x
  dst : I64 x.dst
  rad : I64 x.rad
  tht : I64 x.tht
  lo : I64 x.lo
  hi : I64 x.hi
  spd : I64 x.spd
  rnp : I64 x.rnp
  mx : I64 x.mx
  my : I64 x.my
  sec : 0 ≤ x.sec ∧ x.sec ≤ 255
  via : x.via.size ≤ maxLen
theorem cell_string {P : Program} {w : World} {r : Reach} {base : Nat} {t : TypeId} {v : Value} (ht : P.underlying t = some .string) (h : Cell.okWide P w r base t v) : ∃ s : ByteArray, v = .string s ∧ s.size ≤ maxLen := by
  cases v <;> simp [Cell.okWide, Cell.ok, ht] at h
  refine ⟨_, rfl, ?_⟩
  have e : IntKind.i64.max = 9223372036854775807 := rfl
  unfold maxLen
  omega
theorem cell_at' {P : Program} {w : World} {r : Reach} {base : Nat} {ts : List TypeId} {cs : List Value} (h : ∀ (i : Nat) (x : Value), cs[i]? = some x → ∃ u, ts[i]? = some u ∧ Cell.okWide P w r base u x) {k : Nat} {x : Value} {u : TypeId} (hk : cs[k]? = some x) (hu : ts[k]? = some u) : Cell.okWide P w r base u x := by
  obtain ⟨u', h1, h2⟩ := h k x hk
  rw [hu] at h1
  injection h1 with h1
  rw [h1]; exact h2
theorem lst20 {α : Type} {l : List α} (h : l.length = 20) : ∃ c0 c1 c2 c3 c4 c5 c6 c7 c8 c9 c10 c11 c12 c13 c14 c15 c16 c17 c18 c19 : α, l = [c0, c1, c2, c3, c4, c5, c6, c7, c8, c9, c10, c11, c12, c13, c14, c15, c16, c17, c18, c19] := by
  match l, h with
  | [c0, c1, c2, c3, c4, c5, c6, c7, c8, c9, c10, c11, c12, c13, c14, c15, c16, c17, c18, c19], _ => exact ⟨c0, c1, c2, c3, c4, c5, c6, c7, c8, c9, c10, c11, c12, c13, c14, c15, c16, c17, c18, c19, rfl⟩
set_option maxRecDepth 100000 in
theorem enTypes : Tryz.prog.cellTypes Tryz.prog.depth 39 = some [4, 32, 9, 9, 5, 4, 2, 2, 2, 2, 2, 2, 2, 2, 2, 2, 2, 2, 37, 9] := by kernel_rfl
theorem enCells : Tryz.prog.cellsOf 39 = ([4, 32, 9, 9, 5, 4, 2, 2, 2, 2, 2, 2, 2, 2, 2, 2, 2, 2, 37, 9] : List TypeId).length := by kernel_rfl
set_option maxRecDepth 100000 in
theorem en_of {w : World} {r : Reach} {base : Nat} {v : Value} (h : Value.okWide Tryz.prog w r base 39 v) : ∃ x : En, v = .agg x.cells.toArray ∧ EnX x := by
  obtain ⟨l, rfl, e, hl⟩ := ok_agg (Or.inl ⟨_, Tryz.underlying39⟩) enTypes enCells h
  obtain ⟨c0, c1, c2, c3, c4, c5, c6, c7, c8, c9, c10, c11, c12, c13, c14, c15, c16, c17, c18, c19, rfl⟩ := lst20 (e.trans rfl)
  obtain ⟨gap, rfl⟩ := cell_bool Tryz.underlying4 (cell_at' hl (k := 0) rfl rfl)
  obtain ⟨ty, rfl, hty⟩ := cell_u8 Tryz.underlying32 (cell_at' hl (k := 1) rfl rfl)
  obtain ⟨fx, rfl, hfx⟩ := cell_string Tryz.underlying9 (cell_at' hl (k := 2) rfl rfl)
  obtain ⟨ct, rfl, hct⟩ := cell_string Tryz.underlying9 (cell_at' hl (k := 3) rfl rfl)
  obtain ⟨tn, rfl, htn⟩ := cell_u8 Tryz.underlying5 (cell_at' hl (k := 4) rfl rfl)
  obtain ⟨ov, rfl⟩ := cell_bool Tryz.underlying4 (cell_at' hl (k := 5) rfl rfl)
  obtain ⟨crs, rfl, hcrs⟩ := cell_i64 Tryz.underlying2 (cell_at' hl (k := 6) rfl rfl)
  obtain ⟨dst, rfl, hdst⟩ := cell_i64 Tryz.underlying2 (cell_at' hl (k := 7) rfl rfl)
  obtain ⟨rad, rfl, hrad⟩ := cell_i64 Tryz.underlying2 (cell_at' hl (k := 8) rfl rfl)
  obtain ⟨tht, rfl, htht⟩ := cell_i64 Tryz.underlying2 (cell_at' hl (k := 9) rfl rfl)
  obtain ⟨lo, rfl, hlo⟩ := cell_i64 Tryz.underlying2 (cell_at' hl (k := 10) rfl rfl)
  obtain ⟨hi, rfl, hhi⟩ := cell_i64 Tryz.underlying2 (cell_at' hl (k := 11) rfl rfl)
  obtain ⟨spd, rfl, hspd⟩ := cell_i64 Tryz.underlying2 (cell_at' hl (k := 12) rfl rfl)
  obtain ⟨rnp, rfl, hrnp⟩ := cell_i64 Tryz.underlying2 (cell_at' hl (k := 13) rfl rfl)
  obtain ⟨ex, rfl, hex⟩ := cell_i64 Tryz.underlying2 (cell_at' hl (k := 14) rfl rfl)
  obtain ⟨ey, rfl, hey⟩ := cell_i64 Tryz.underlying2 (cell_at' hl (k := 15) rfl rfl)
  obtain ⟨mx, rfl, hmx⟩ := cell_i64 Tryz.underlying2 (cell_at' hl (k := 16) rfl rfl)
  obtain ⟨my, rfl, hmy⟩ := cell_i64 Tryz.underlying2 (cell_at' hl (k := 17) rfl rfl)
  obtain ⟨sec, rfl, hsec⟩ := cell_u8 Tryz.underlying37 (cell_at' hl (k := 18) rfl rfl)
  obtain ⟨via, rfl, hvia⟩ := cell_string Tryz.underlying9 (cell_at' hl (k := 19) rfl rfl)
  exact ⟨⟨gap, ty, fx, ct, tn, ov, crs, dst, rad, tht, lo, hi, spd, rnp, ex, ey, mx, my, sec, via⟩, rfl, ⟨⟨⟨hty, htn, hfx, hct⟩, hcrs, hex, hey⟩, hdst, hrad, htht, hlo, hhi, hspd, hrnp, hmx, hmy, hsec, hvia⟩⟩
end Go.Proofs.YtjjdojokkmfbmaaGreatDoor
