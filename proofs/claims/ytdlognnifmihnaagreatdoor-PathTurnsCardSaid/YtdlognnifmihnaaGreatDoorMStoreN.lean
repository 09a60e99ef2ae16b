/-
  Loads and stores of structs of many cells, in one step each: a store into a box that was just made, a load of known cells, a result out of a box that was just made. (The walk's own way runs the kernel out of memory at 20 cells.)
-/
import Derived.Test.YtdlognnifmihnaaGreatDoorMGeo
import Derived.Deep.WholeRow
namespace Go.Proofs.YtdlognnifmihnaaGreatDoor
open Go.RowKit
set_option linter.unusedVariables false
theorem Ga {o : Oper} {a : Act} {w0 : World} {K : Act → World → Prop} {Q : Exit → Act → World → Prop} (ty : TypeId) (x y : Operand) (ho : o.op = .store ty x y)
 (n : Nat) (cells old : Array Value) (hx : a.eval x = .pointer (some ⟨n, 0, none⟩)) (hy : a.eval y = .agg cells) (hn : n = w0.heap.size)
 (hi : (Tryz.prog.info? ty).map (·.size) = some cells.size) (hold : old.size = cells.size) (h1 : cells.all (·.oneCell') = true)
 (h : K (a.put o.dst undef) (w0.alloc (.cells cells ty))) : o.wp Tryz.prog a (w0.alloc (.cells old ty)) K Q := by
 subst hn
 unfold Oper.wp execOp
 simp only [ho, hx, hy, Instr.storeAt, Instr.sureAddr, Sem.run_bind, Sem.run_pure, Result.andThen_ok, run_storeVar_new w0 ty old cells hi hold h1]
 exact h
theorem Ty {fn : Func} {t : Tmp} {ty : TypeId} (h : fn.results = #[.cell t ty]) (tmps : Array Value) (w0 : World) (cs : Array Value) (n : Nat) (hn : n = w0.heap.size) (ht : tmps.getD t undef = .pointer (some ⟨n, 0, none⟩))
 (fs : Array Field) (hu : Tryz.prog.underlying ty = some (.struct fs)) (hi : (Tryz.prog.info? ty).map (·.size) = some cs.size) :
 (results fn tmps).run Tryz.prog (w0.alloc (.cells cs ty)) = .ok (.agg cs) (w0.alloc (.cells cs ty)) := by
 subst hn
 have := run_loadVar_row (P := Tryz.prog) (w0.alloc (.cells cs ty)) w0.heap.size ty ty cs (0, 0) _ (heap_alloc_last w0 _) hu rfl hi
 have ht' : tmps[t]?.getD undef = .pointer (some ⟨w0.heap.size, 0, none⟩) := by simpa using ht
 simp [results, h, ht', asAddr, this]
theorem NC : (Tryz.prog.info? 52).map (·.size) = some 20 := by kernel_rfl
theorem Du {o : Oper} {a : Act} {w0 : World} {K : Act → World → Prop} {Q : Exit → Act → World → Prop} {x y : Operand} (ho : o.op = .store 52 x y)
 {n : Nat} {c0 c1 c2 c3 c4 c5 c6 c7 c8 c9 c10 c11 c12 c13 c14 c15 c16 c17 c18 c19 : Value} {old : Array Value} (hx : a.eval x = .pointer (some ⟨n, 0, none⟩)) (hy : a.eval y = .agg #[c0, c1, c2, c3, c4, c5, c6, c7, c8, c9, c10, c11, c12, c13, c14, c15, c16, c17, c18, c19]) (hn : n = w0.heap.size) (hold : old.size = 20)
 (h1 : c0.oneCell' ∧ c1.oneCell' ∧ c2.oneCell' ∧ c3.oneCell' ∧ c4.oneCell' ∧ c5.oneCell' ∧ c6.oneCell' ∧ c7.oneCell' ∧ c8.oneCell' ∧ c9.oneCell' ∧ c10.oneCell' ∧ c11.oneCell' ∧ c12.oneCell' ∧ c13.oneCell' ∧ c14.oneCell' ∧ c15.oneCell' ∧ c16.oneCell' ∧ c17.oneCell' ∧ c18.oneCell' ∧ c19.oneCell')
 (h : K (a.put o.dst undef) (w0.alloc (.cells #[c0, c1, c2, c3, c4, c5, c6, c7, c8, c9, c10, c11, c12, c13, c14, c15, c16, c17, c18, c19] 52))) : o.wp Tryz.prog a (w0.alloc (.cells old 52)) K Q :=
 Ga 52 x y ho n _ old hx hy hn NC hold (by simpa using h1) h
def rowAt (w : World) (b : Nat) (cs : List Value) : Prop := ∀ (j : Nat) (v : Value), cs[j]? = some v → w.cell? ⟨b, j, none⟩ = some v
theorem Tz {W w1 : World} (hb : Below W.heap.size W w1) {b : Nat} {cs : List Value} (h : rowAt W b cs) : rowAt w1 b cs := fun j v hj => qa hb (h j v hj)
set_option linter.unusedSimpArgs false
set_option maxRecDepth 100000 in
set_option maxHeartbeats 8000000 in
theorem nF (t : Int) (s : ByteArray) (x y : Int) (w : World) :
 Calls Tryz.prog 24 #[.int .u8 t, .string s, .int .i64 x, .int .i64 y] w fun e w' => e = .returned (.agg #[.bool false, .int .u8 t, .string s, .string ⟨#[]⟩, .int .u8 0, .bool false, .int .i64 0, .int .i64 0, .int .i64 0, .int .i64 0, .int .i64 (-200000), .int .i64 6000000, .int .i64 0, .int .i64 0, .int .i64 x, .int .i64 y, .int .i64 0, .int .i64 0, .int .u8 2, .string ⟨#[]⟩]) ∧ Below w.heap.size w w' := by
 go_enter Tryz.func24, Tryz.ntmps24
 repeat (first | (refine Du rfl rfl rfl (by first | rfl | simp) rfl (by simp [Value.oneCell']) ?_) | go_step)
 go_wp2_with fail
 exact bodyPost_ret (v := .agg #[.bool false, .int .u8 t, .string s, .string ⟨#[]⟩, .int .u8 0, .bool false, .int .i64 0, .int .i64 0, .int .i64 0, .int .i64 0, .int .i64 (-200000), .int .i64 6000000, .int .i64 0, .int .i64 0, .int .i64 x, .int .i64 y, .int .i64 0, .int .i64 0, .int .u8 2, .string ⟨#[]⟩]) (Ty rfl _ _ _ _ rfl rfl _ Tryz.underlying52 NC) rfl ⟨rfl, by (repeat (with_reducible (first | assumption | exact Below.refl _ _ | refine Below.drew ?_ | refine below_drewN ?_ _ | refine qj ?_ (by simp; try omega) _ | refine qe ?_ (Nat.le_refl _) _ | refine qi (by assumption) ?_)))⟩
end Go.Proofs.YtdlognnifmihnaaGreatDoor
