/-
  Loads and stores of structs of many cells, in one step each: a store into a box that was just made, a load of known cells, a result out of a box that was just made. (The walk's own way runs the kernel out of memory at 20 cells.)
-/
import Derived.Test.YtapgmnjpfcohhaaGreatDoorMGeo
import Derived.Test.YtapgmnjpfcohhaaGreatDoorMFixed
import Derived.Laws.Tables
import Derived.Deep.WholeRow
import Derived.Below
import Derived.Deep.RegionHeld3
import Derived.Test.YtapgmnjpfcohhaaGreatDoorProg
import Derived.WalkSpells
import Derived.WalkLawsBesides
import Derived.Deep.QuietTactic
import Derived.BigQuiet
import Derived.Lib.ItoaNum
import Derived.Shelf.Small.Bits
import Derived.Shelf.Strconv.Itoa0
import Derived.Shelf.Bits.Mul64
import Derived.Shelf.Spec.BitsCarry
import Derived.WalkKit
import Derived.ProofKit
import Derived.OpenShut
import Derived.ChangeSame
import Derived.Test.YtapgmnjpfcohhaaGreatDoorRows
namespace Go.Proofs.YtapgmnjpfcohhaaGreatDoor
open Go.RowKit
set_option linter.unusedVariables false
theorem wp_store_new {o : Oper} {a : Act} {w0 : World} {K : Act → World → Prop} {Q : Exit → Act → World → Prop} (ty : TypeId) (x y : Operand) (ho : o.op = .store ty x y)
    (n : Nat) (cells old : Array Value) (hx : a.eval x = .pointer (some ⟨n, 0, none⟩)) (hy : a.eval y = .agg cells) (hn : n = w0.heap.size)
    (hi : (Tryz.prog.info? ty).map (·.size) = some cells.size) (hold : old.size = cells.size) (h1 : cells.all (·.oneCell') = true)
    (h : K (a.put o.dst undef) (w0.alloc (.cells cells ty))) : o.wp Tryz.prog a (w0.alloc (.cells old ty)) K Q := by
  subst hn
  unfold Oper.wp execOp
  simp only [ho, hx, hy, Instr.storeAt, Instr.sureAddr, Sem.run_bind, Sem.run_pure, Result.andThen_ok, run_storeVar_new w0 ty old cells hi hold h1]
  exact h
theorem run_loadVar_list (w : World) (ty : TypeId) (b off n : Nat) (L : List Value) (hg : ∀ w, (isAgg ty).run Tryz.prog w = .ok true w) (hz : (Tryz.prog.info? ty).map (·.size) = some n) (hn : L.length = n)
    (hc : ∀ (j : Nat) (v : Value), L[j]? = some v → w.cell? ⟨b, off + j, none⟩ = some v) : (loadVar ty ⟨b, off, none⟩).run Tryz.prog w = .ok (.agg L.toArray) w := by
  have hl := run_loadCells_list (P := Tryz.prog) w ⟨b, off, none⟩ L (fun j v hv => by
    have hadd : (⟨b, off, none⟩ : Addr).add j = ⟨b, off + j, none⟩ := by unfold Addr.add; split <;> simp_all
    rw [hadd]
    exact hc j v hv)
  cases hq : Tryz.prog.info? ty with
  | none => simp [hq] at hz
  | some i =>
    have hs : i.size = L.length := by simp [hq] at hz; omega
    simp [loadVar, sizeOf, typeInfo, hq, hg, hs, hl]
theorem wp_load_list {o : Oper} {a : Act} {w : World} {K : Act → World → Prop} {Q : Exit → Act → World → Prop} (ty : TypeId) (x : Operand) (ho : o.op = .load ty x)
    (n b off : Nat) (L : List Value) (hx : a.eval x = .pointer (some ⟨b, off, none⟩)) (hg : ∀ w, (isAgg ty).run Tryz.prog w = .ok true w) (hz : (Tryz.prog.info? ty).map (·.size) = some n) (hn : L.length = n)
    (hc : ∀ (j : Nat) (v : Value), L[j]? = some v → w.cell? ⟨b, off + j, none⟩ = some v)
    (h : K (a.put o.dst (.agg L.toArray)) w) : o.wp Tryz.prog a w K Q := by
  unfold Oper.wp execOp
  simp only [ho, hx, Instr.loadAt, Instr.sureAddr, Sem.run_bind, Sem.run_pure, Result.andThen_ok, run_loadVar_list w ty b off n L hg hz hn hc]
  exact h
theorem results_new {fn : Func} {t : Tmp} {ty : TypeId} (h : fn.results = #[.cell t ty]) (tmps : Array Value) (w0 : World) (cs : Array Value) (n : Nat) (hn : n = w0.heap.size) (ht : tmps.getD t undef = .pointer (some ⟨n, 0, none⟩))
    (fs : Array Field) (hu : Tryz.prog.underlying ty = some (.struct fs)) (hi : (Tryz.prog.info? ty).map (·.size) = some cs.size) :
    (results fn tmps).run Tryz.prog (w0.alloc (.cells cs ty)) = .ok (.agg cs) (w0.alloc (.cells cs ty)) := by
  subst hn
  have := run_loadVar_row (P := Tryz.prog) (w0.alloc (.cells cs ty)) w0.heap.size ty ty cs (0, 0) _ (heap_alloc_last w0 _) hu rfl hi
  have ht' : tmps[t]?.getD undef = .pointer (some ⟨w0.heap.size, 0, none⟩) := by simpa using ht
  simp [results, h, ht', asAddr, this]
theorem sizeE : (Tryz.prog.info? 52).map (·.size) = some 20 := by kernel_rfl
theorem st_ent {o : Oper} {a : Act} {w0 : World} {K : Act → World → Prop} {Q : Exit → Act → World → Prop} {x y : Operand} (ho : o.op = .store 52 x y)
    {n : Nat} {c0 c1 c2 c3 c4 c5 c6 c7 c8 c9 c10 c11 c12 c13 c14 c15 c16 c17 c18 c19 : Value} {old : Array Value} (hx : a.eval x = .pointer (some ⟨n, 0, none⟩)) (hy : a.eval y = .agg #[c0, c1, c2, c3, c4, c5, c6, c7, c8, c9, c10, c11, c12, c13, c14, c15, c16, c17, c18, c19]) (hn : n = w0.heap.size) (hold : old.size = 20)
    (h1 : c0.oneCell' ∧ c1.oneCell' ∧ c2.oneCell' ∧ c3.oneCell' ∧ c4.oneCell' ∧ c5.oneCell' ∧ c6.oneCell' ∧ c7.oneCell' ∧ c8.oneCell' ∧ c9.oneCell' ∧ c10.oneCell' ∧ c11.oneCell' ∧ c12.oneCell' ∧ c13.oneCell' ∧ c14.oneCell' ∧ c15.oneCell' ∧ c16.oneCell' ∧ c17.oneCell' ∧ c18.oneCell' ∧ c19.oneCell')
    (h : K (a.put o.dst undef) (w0.alloc (.cells #[c0, c1, c2, c3, c4, c5, c6, c7, c8, c9, c10, c11, c12, c13, c14, c15, c16, c17, c18, c19] 52))) : o.wp Tryz.prog a (w0.alloc (.cells old 52)) K Q :=
  wp_store_new 52 x y ho n _ old hx hy hn sizeE hold (by simpa using h1) h
theorem wpl_store_new {ops : Array Oper} {rest : List Oper} {o : Oper} {a : Act} {w0 : World} {Q : Exit → Act → World → Prop} (hg : o.guard = none) {ty : TypeId} {x y : Operand} (ho : o.op = .store ty x y)
    {n : Nat} {cells old : Array Value} (hx : a.eval x = .pointer (some ⟨n, 0, none⟩)) (hy : a.eval y = .agg cells) (hn : n = w0.heap.size)
    {m : Nat} (hi : (Tryz.prog.info? ty).map (·.size) = some m) (hm : cells.size = m) (hold : old.size = m) (h1 : ∀ v ∈ cells.toList, v.oneCell' = true)
    (h : wpList Tryz.prog ops Q rest (a.put o.dst undef) (w0.alloc (.cells cells ty))) : wpList Tryz.prog ops Q (o :: rest) a (w0.alloc (.cells old ty)) :=
  wpList_plain hg fun _ hK => wp_store_new ty x y ho n _ old hx hy hn (by rw [hi, hm]) (by omega) (Array.all_eq_true_iff_forall_mem.2 (fun v hv => h1 v (by simpa using hv))) (hK _ _ h)
theorem wpl_load_list {ops : Array Oper} {rest : List Oper} {o : Oper} {a : Act} {w : World} {Q : Exit → Act → World → Prop} (hgd : o.guard = none) {ty : TypeId} {x : Operand} (ho : o.op = .load ty x)
    {b off : Nat} (hx : a.eval x = .pointer (some ⟨b, off, none⟩)) {n : Nat} (L : List Value) (hg : ∀ w, (isAgg ty).run Tryz.prog w = .ok true w) (hz : (Tryz.prog.info? ty).map (·.size) = some n) (hn : L.length = n)
    (hc : ∀ (j : Nat) (v : Value), L[j]? = some v → w.cell? ⟨b, off + j, none⟩ = some v)
    (h : wpList Tryz.prog ops Q rest (a.put o.dst (.agg L.toArray)) w) : wpList Tryz.prog ops Q (o :: rest) a w :=
  wpList_plain hgd fun _ hK => wp_load_list ty x ho n b off L hx hg hz hn hc (hK _ _ h)
theorem wpl_load_new {ops : Array Oper} {rest : List Oper} {o : Oper} {a : Act} {w0 : World} {cs : Array Value} {Q : Exit → Act → World → Prop} {ty : TypeId} (hgd : o.guard = none) {x : Operand} (ho : o.op = .load ty x)
    {n : Nat} (hx : a.eval x = .pointer (some ⟨n, 0, none⟩)) (hn : n = w0.heap.size) {m : Nat} (hg : ∀ w, (isAgg ty).run Tryz.prog w = .ok true w) (hz : (Tryz.prog.info? ty).map (·.size) = some m) (hm : cs.size = m)
    (h : wpList Tryz.prog ops Q rest (a.put o.dst (.agg cs)) (w0.alloc (.cells cs ty))) : wpList Tryz.prog ops Q (o :: rest) a (w0.alloc (.cells cs ty)) :=
  wpl_load_list hgd ho hx cs.toList hg hz (by simpa using hm) (fun j v hv => by
    subst hn
    rw [Nat.zero_add]
    exact cell_new rfl (by simpa using hv)) (by simpa using h)
/-- a row that was made as a whole -/
def rowAt (w : World) (b : Nat) (cs : List Value) : Prop := ∀ (j : Nat) (v : Value), cs[j]? = some v → w.cell? ⟨b, j, none⟩ = some v
theorem rowAt_below {W w1 : World} (hb : Below W.heap.size W w1) {b : Nat} {cs : List Value} (h : rowAt W b cs) : rowAt w1 b cs := fun j v hj => cell_below hb (h j v hj)
theorem rowAt_part {w : World} {b : Nat} {cs : List Value} (h : rowAt w b cs) (off n : Nat) (L : List Value) (hL : (cs.drop off).take n = L) : ∀ (j : Nat) (v : Value), L[j]? = some v → w.cell? ⟨b, off + j, none⟩ = some v := by
  intro j v hj
  rw [← hL, List.getElem?_take] at hj
  split at hj
  · rw [List.getElem?_drop] at hj
    exact h _ _ hj
  · cases hj
theorem row_alloc {w : World} {g : Nat} {o : Obj} (h : w.heap[g]? = some o) (o' : Obj) : (w.alloc o').heap[g]? = some o := by
  have hl : g < w.heap.size := by
    rcases Nat.lt_or_ge g w.heap.size with hlt | hge
    · exact hlt
    · rw [Array.getElem?_eq_none hge] at h; cases h
  exact (((Below.refl w.heap.size w).alloc (Nat.le_refl _) o').block g hl).trans h
theorem row_set {w : World} {p : Addr} {g : Nat} {o : Obj} (h : w.heap[g]? = some o) (hp : g ≠ p.block) (u : Value) : (w.setCell p u).heap[g]? = some o := by
  obtain ⟨b, i, r⟩ := p
  exact (Below.heap_setCell _ _ _ _ hp).trans h
theorem row_below {W w1 : World} (hb : Below W.heap.size W w1) {g : Nat} {o : Obj} (h : W.heap[g]? = some o) : w1.heap[g]? = some o := by
  have hl : g < W.heap.size := by
    rcases Nat.lt_or_ge g W.heap.size with hlt | hge
    · exact hlt
    · rw [Array.getElem?_eq_none hge] at h; cases h
  exact (hb.block g hl).trans h
theorem below_setRow {B : Nat} {a w : World} (h : Below B a w) {g : Nat} (hB : B ≤ g) (cs : Array Value) : Below B a (w.setRow g cs) :=
  ⟨h.os, h.tape, h.output, Nat.le_trans h.size (by simp), fun k hk => (setRow_other w g k cs (by omega)).trans (h.block k hk)⟩
theorem wpl_store_row {ops : Array Oper} {rest : List Oper} {o : Oper} {a : Act} {w : World} {Q : Exit → Act → World → Prop} (hg : o.guard = none) {ty : TypeId} {x y : Operand} (ho : o.op = .store ty x y)
    {g : Nat} {cells old : Array Value} {t : TypeId} (hx : a.eval x = .pointer (some ⟨g, 0, none⟩)) (hy : a.eval y = .agg cells) {m : Nat} (hr : w.heap[g]? = some (.cells old t (0, 0)))
    (hi : (Tryz.prog.info? ty).map (·.size) = some m) (hm : cells.size = m) (hold : old.size = m) (h1 : ∀ v ∈ cells.toList, v.oneCell' = true)
    (h : wpList Tryz.prog ops Q rest (a.put o.dst undef) (w.setRow g cells)) : wpList Tryz.prog ops Q (o :: rest) a w :=
  wpList_store_row hg ty x y ho g cells hx hy t old hr (by rw [hi, hm]) (by omega) (Array.all_eq_true_iff_forall_mem.2 (fun v hv => h1 v (by simpa using hv))) h
theorem results_row {fn : Func} {t : Tmp} {ty : TypeId} (h : fn.results = #[.cell t ty]) (tmps : Array Value) (w : World) (g : Nat) (cs old : Array Value) (t0 : TypeId) (hr : w.heap[g]? = some (.cells old t0 (0, 0))) (ht : tmps.getD t undef = .pointer (some ⟨g, 0, none⟩))
    (fs : Array Field) (hu : Tryz.prog.underlying ty = some (.struct fs)) (hi : (Tryz.prog.info? ty).map (·.size) = some cs.size) :
    (results fn tmps).run Tryz.prog (w.setRow g cs) = .ok (.agg cs) (w.setRow g cs) := by
  have := run_loadVar_row (P := Tryz.prog) (w.setRow g cs) g t0 ty cs (0, 0) _ (setRow_heap w g old cs t0 (0, 0) hr) hu rfl hi
  have ht' : tmps[t]?.getD undef = .pointer (some ⟨g, 0, none⟩) := by simpa using ht
  simp [results, h, ht', asAddr, this]
theorem results_row2 {fn : Func} {t u : Tmp} {ty : TypeId} (h : fn.results = #[.cell t ty, .tmp u]) (tmps : Array Value) (w : World) (g : Nat) (cs old : Array Value) (t0 : TypeId) (hr : w.heap[g]? = some (.cells old t0 (0, 0))) (ht : tmps.getD t undef = .pointer (some ⟨g, 0, none⟩)) (v2 : Value) (hv : tmps.getD u undef = v2)
    (fs : Array Field) (hu : Tryz.prog.underlying ty = some (.struct fs)) (hi : (Tryz.prog.info? ty).map (·.size) = some cs.size) :
    (results fn tmps).run Tryz.prog (w.setRow g cs) = .ok (.tuple #[.agg cs, v2]) (w.setRow g cs) := by
  subst hv
  have := run_loadVar_row (P := Tryz.prog) (w.setRow g cs) g t0 ty cs (0, 0) _ (setRow_heap w g old cs t0 (0, 0) hr) hu rfl hi
  have ht' : tmps[t]?.getD undef = .pointer (some ⟨g, 0, none⟩) := by simpa using ht
  simp [results, h, ht', asAddr, this]
/-- cells one behind the other, from k on -/
def rowsFrom (w : World) (b : Nat) : Nat → List Value → Prop
  | _, [] => True
  | k, v :: l => w.cell? ⟨b, k, none⟩ = some v ∧ rowsFrom w b (k + 1) l
theorem rowsFrom_get {w : World} {b : Nat} : ∀ {L : List Value} {k : Nat} (h : rowsFrom w b k L) (j : Nat) (v : Value), L[j]? = some v → w.cell? ⟨b, k + j, none⟩ = some v
  | [], _, _, _, _, hj => by simp at hj
  | x :: l, k, h, 0, v, hj => by
    simp at hj
    subst hj
    exact h.1
  | x :: l, k, h, j + 1, v, hj => by
    have := rowsFrom_get h.2 j v (by simpa using hj)
    rw [show k + (j + 1) = k + 1 + j by omega]
    exact this
theorem wpl_load_rowh {ops : Array Oper} {rest : List Oper} {o : Oper} {a : Act} {w : World} {cs : Array Value} {t : TypeId} {Q : Exit → Act → World → Prop} {ty : TypeId} (hgd : o.guard = none) {x : Operand} (ho : o.op = .load ty x)
    {g : Nat} (hx : a.eval x = .pointer (some ⟨g, 0, none⟩)) (hr : w.heap[g]? = some (.cells cs t (0, 0))) {m : Nat} (hg : ∀ w, (isAgg ty).run Tryz.prog w = .ok true w) (hz : (Tryz.prog.info? ty).map (·.size) = some m) (hm : cs.size = m)
    (h : wpList Tryz.prog ops Q rest (a.put o.dst (.agg cs)) w) : wpList Tryz.prog ops Q (o :: rest) a w :=
  wpl_load_list hgd ho hx cs.toList hg hz (by simpa using hm) (fun j v hv => by
    rw [Nat.zero_add, cell_of_row w g j cs t (0, 0) hr]
    simpa using hv) (by simpa using h)
theorem owns_heap {w w1 : World} {base : Nat} {e : TypeId} {size : Nat} {v : Value} {n : Nat} {xs : List Value} (h : w.ownsRow base e size v n xs) (he : ∀ g, v.ownBlock = some g → w1.heap[g]? = w.heap[g]?) : w1.ownsRow base e size v n xs := by
  obtain ⟨h1, h2⟩ := h
  refine ⟨h1, ?_⟩
  rcases h2 with h2 | ⟨g, cap, cur, hv, hg, hh, r⟩
  · exact .inl h2
  · exact .inr ⟨g, cap, cur, hv, hg, (he g (by rw [hv]; rfl)).trans hh, r⟩
theorem owns_b {w w1 : World} {base : Nat} {e : TypeId} {size : Nat} {v : Value} {n : Nat} {xs : List Value} (hb : Below w.heap.size w w1) (h : w.ownsRow base e size v n xs) : w1.ownsRow base e size v n xs :=
  owns_heap h (fun g hg => hb.block g (h.lt g hg).2)
theorem owns_setc {w : World} {base : Nat} {e : TypeId} {size : Nat} {v : Value} {n : Nat} {xs : List Value} (h : w.ownsRow base e size v n xs) {p : Addr} (hp : some p.block ≠ v.ownBlock) (u : Value) : (w.setCell p u).ownsRow base e size v n xs := by
  obtain ⟨b, i, r⟩ := p
  exact owns_heap h (fun g hg => Below.heap_setCell _ _ _ _ (fun e => hp (by rw [hg]; exact congrArg some e.symm)))
theorem owns_setr {w : World} {base : Nat} {e : TypeId} {size : Nat} {v : Value} {n : Nat} {xs : List Value} (h : w.ownsRow base e size v n xs) {b : Nat} (hp : some b ≠ v.ownBlock) (cs : Array Value) : (w.setRow b cs).ownsRow base e size v n xs :=
  owns_heap h (fun g hg => setRow_other w b g cs (fun e => hp (by rw [hg, e])))
theorem cell_setr {w : World} {b : Nat} {cs : Array Value} {a : Addr} {v : Value} (hp : a.block ≠ b) (h : w.cell? a = some v) : (w.setRow b cs).cell? a = some v := (cell_setRow_other w b cs a hp).trans h
theorem own_setr {w : World} {b : Nat} {cs : Array Value} {a : Addr} {v : Value} (hp : a.block ≠ b) (h : w.cell? a = some v ∧ w.frozen? a = false) : (w.setRow b cs).cell? a = some v ∧ (w.setRow b cs).frozen? a = false :=
  ⟨cell_setr hp h.1, (World.frozen?_of_block (w := w) (setRow_other w b a.block cs hp)).trans h.2⟩
theorem own_row {w : World} {b j : Nat} {cs : Array Value} {t : TypeId} {v : Value} (h : w.heap[b]? = some (.cells cs t (0, 0))) (hv : cs[j]? = some v) : w.cell? ⟨b, j, none⟩ = some v ∧ w.frozen? ⟨b, j, none⟩ = false :=
  ⟨(cell_of_row w b j cs t (0, 0) h).trans hv, by simp [World.frozen?, h]⟩
theorem own_rowr {w : World} {b j : Nat} {cs old : Array Value} {t : TypeId} {v : Value} (h : w.heap[b]? = some (.cells old t (0, 0))) (hv : cs[j]? = some v) : (w.setRow b cs).cell? ⟨b, j, none⟩ = some v ∧ (w.setRow b cs).frozen? ⟨b, j, none⟩ = false :=
  own_row (setRow_heap w b old cs t (0, 0) h) hv
theorem news_new {w0 : World} {cs : Array Value} {t : TypeId} {n : Nat} (hn : n = w0.heap.size) : ∀ (j : Nat) (u : Value), cs.toList[j]? = some u → (w0.alloc (.cells cs t)).cell? ((⟨n, 0, none⟩ : Addr).add j) = some u := by
  intro j u hj
  have hadd : (⟨n, 0, none⟩ : Addr).add j = ⟨n, j, none⟩ := by unfold Addr.add; split <;> simp_all
  rw [hadd]
  exact cell_new hn (by simpa using hj)
theorem own_grown' {w w1 : World} {row : Option Nat} (hg : w.grownBy w1 row) {a : Addr} {v : Value} (h : w.cell? a = some v ∧ w.frozen? a = false) (hne : some a.block ≠ row) : w1.cell? a = some v ∧ w1.frozen? a = false :=
  ⟨hg.cell h.1 hne, (World.frozen?_of_block (w := w) (hg.block a.block (World.block_lt_of_cell? _ _ h.1) hne)).trans h.2⟩
theorem below_grown {B : Nat} {a w w1 : World} {row : Option Nat} (h : Below B a w) (hg : w.grownBy w1 row) (hr : ∀ g, row = some g → B ≤ g) (hB : B ≤ w.heap.size) : Below B a w1 :=
  ⟨hg.os.trans h.os, hg.tape.trans h.tape, hg.output.trans h.output, Nat.le_trans h.size hg.size, fun k hk => (hg.block k (Nat.lt_of_lt_of_le hk hB) (fun e => by have := hr k e.symm; omega)).trans (h.block k hk)⟩
/-- guards: the list begins with a load, a store of this type -/
theorem at_ld (ty : TypeId) {P : Program} {ops : Array Oper} {rest : List Oper} {d : Option Tmp} {x : Operand} {t : TypeId} {p : String} {l : Array Edge} {g : Option (Nat × Bool)} {Q : Exit → Act → World → Prop} {a : Act} {w : World}
    (h : wpList P ops Q ({ dst := d, op := .load ty x, type := t, pos := p, after := l, guard := g } :: rest) a w) : wpList P ops Q ({ dst := d, op := .load ty x, type := t, pos := p, after := l, guard := g } :: rest) a w := h
theorem at_st (ty : TypeId) {P : Program} {ops : Array Oper} {rest : List Oper} {d : Option Tmp} {x y : Operand} {t : TypeId} {p : String} {l : Array Edge} {g : Option (Nat × Bool)} {Q : Exit → Act → World → Prop} {a : Act} {w : World}
    (h : wpList P ops Q ({ dst := d, op := .store ty x y, type := t, pos := p, after := l, guard := g } :: rest) a w) : wpList P ops Q ({ dst := d, op := .store ty x y, type := t, pos := p, after := l, guard := g } :: rest) a w := h
theorem wpl_load1 {ops : Array Oper} {rest : List Oper} {o : Oper} {a : Act} {w : World} {Q : Exit → Act → World → Prop} (hgd : o.guard = none) {ty : TypeId} {x : Operand} (ho : o.op = .load ty x)
    {b off : Nat} (hx : a.eval x = .pointer (some ⟨b, off, none⟩)) (v : Value) (hg : ∀ w, (isAgg ty).run Tryz.prog w = .ok false w) (hc : w.cell? ⟨b, off, none⟩ = some v)
    (h : wpList Tryz.prog ops Q rest (a.put o.dst v) w) : wpList Tryz.prog ops Q (o :: rest) a w :=
  wpList_plain hgd fun _ hK => by
    unfold Oper.wp execOp
    simp only [ho, hx, Instr.loadAt, Instr.sureAddr, Sem.run_bind, Sem.run_pure, Result.andThen_ok, loadVar, hg]
    have hl : (load ⟨b, off, none⟩).run Tryz.prog w = .ok v w := by simp [hc]
    simp [hl]
    exact hK _ _ h
theorem owns_base {w : World} {base base' : Nat} {e : TypeId} {size : Nat} {v : Value} {n : Nat} {xs : List Value} (hb : base' ≤ base) (h : w.ownsRow base e size v n xs) : w.ownsRow base' e size v n xs := by
  obtain ⟨h1, h2⟩ := h
  refine ⟨h1, ?_⟩
  rcases h2 with h2 | ⟨g, cap, cur, hv, hg, r⟩
  · exact .inl h2
  · exact .inr ⟨g, cap, cur, hv, Nat.le_trans hb hg, r⟩
end Go.Proofs.YtapgmnjpfcohhaaGreatDoor
/-
  The law's to: an entry that is a leg to a point.
-/
namespace Go.Proofs.YtapgmnjpfcohhaaGreatDoor
open Go.RowKit
set_option linter.unusedVariables false
set_option linter.unusedSimpArgs false
set_option maxRecDepth 100000 in
set_option maxHeartbeats 8000000 in
theorem to_any (t : Int) (s : ByteArray) (x y : Int) (w : World) :
    Calls Tryz.prog 18 #[.int .u8 t, .string s, .int .i64 x, .int .i64 y] w fun e w' => e = .returned (.agg #[.bool false, .int .u8 t, .string s, .string ⟨#[]⟩, .int .u8 0, .bool false, .int .i64 0, .int .i64 0, .int .i64 0, .int .i64 0, .int .i64 (-200000), .int .i64 6000000, .int .i64 0, .int .i64 0, .int .i64 x, .int .i64 y, .int .i64 0, .int .i64 0, .int .u8 2, .string ⟨#[]⟩]) ∧ Below w.heap.size w w' := by
  go_enter Tryz.func18, Tryz.ntmps18
  repeat (first | (refine st_ent rfl rfl rfl (by first | rfl | simp) rfl (by simp [Value.oneCell']) ?_) | go_step)
  go_wp2_with fail
  exact bodyPost_ret (v := .agg #[.bool false, .int .u8 t, .string s, .string ⟨#[]⟩, .int .u8 0, .bool false, .int .i64 0, .int .i64 0, .int .i64 0, .int .i64 0, .int .i64 (-200000), .int .i64 6000000, .int .i64 0, .int .i64 0, .int .i64 x, .int .i64 y, .int .i64 0, .int .i64 0, .int .u8 2, .string ⟨#[]⟩]) (results_new rfl _ _ _ _ rfl rfl _ Tryz.underlying52 sizeE) rfl ⟨rfl, by (repeat (with_reducible (first | assumption | exact Below.refl _ _ | refine Below.drew ?_ | refine below_drewN ?_ _ | refine below_set ?_ (by simp; try omega) _ | refine below_alloc ?_ (Nat.le_refl _) _ | refine below_sub (by assumption) ?_)))⟩
end Go.Proofs.YtapgmnjpfcohhaaGreatDoor
