/-
  Regions that draw their order, with guarded operations and reads of memory that was there.
-/
import Derived.Test.YtbhpklpkcgcmfaaGreatDoorMMemD
import Derived.Test.YtbhpklpkcgcmfaaGreatDoorMPlan3
namespace Go.Proofs.YtbhpklpkcgcmfaaGreatDoor
open Go.RowKit
set_option linter.unusedVariables false
section
variable {l : List Oper} {Q : Exit → Act → World → Prop} {a : Act} {w W : World} {L K : List Box} {o : Oper} {fuel : Nat} {listed : Array Bool}
theorem eP {P : Program} (i : Nat) {v : Value} (hM : Mem w W L) (h : wpAnyH P .any l.toArray Q (Held w K) fuel (listed.setIfInBounds i true) (a.put o.dst v) W) (hk : Ks K L := by ((repeat constructor) <;> fail)) (hn : Nth l i o := by exact nthQ rfl)
 (hs : Region.noSelect l.toArray = true := by kernel_rfl) (hf : Region.free .any l.toArray listed i = true := by kernel_rfl) (hr : (Region.ready .any l.toArray listed).contains i = true := by kernel_rfl)
 (hw : Region.wanted o (yielded l.toArray a.tmps) = true := by rfl) (hv : ∀ W, (execOp a.eval o).run P W = .ok (.value v) W := by (intro W0; go_simp <;> with_reducible rfl)) (hQ : ∀ c a w v, Q (.panic c) (a.put o.dst v) w → Q (.panic c) a w := by exact fun _ _ _ _ h => h) : wpAnyH P .any l.toArray Q (Held w K) (fuel + 1) listed a W :=
  tg_pure hM hk.mem hn hs hf hr hw hv hQ h
theorem eL (i : Nat) {v : Value} {cs : List Value} {t : TypeId} (hM : Mem w W L) (h : wpAnyH Tryz.prog .any l.toArray Q (Held w K) fuel (listed.setIfInBounds i true) (a.put o.dst v) W) (hk : Ks K L := by ((repeat constructor) <;> fail)) (hn : Nth l i o := by exact nthQ rfl)
 (hs : Region.noSelect l.toArray = true := by kernel_rfl) (hf : Region.free .any l.toArray listed i = true := by kernel_rfl) (hr : (Region.ready .any l.toArray listed).contains i = true := by kernel_rfl) (hw : Region.wanted o (yielded l.toArray a.tmps) = true := by rfl) {ty : TypeId} {x : Operand} (ho : o.op = .load ty x := by rfl) {g off : Nat} (hx : a.eval x = .pointer (some ⟨g, off, none⟩) := by rfl)
 (hl : Lk K g cs t := by ((repeat constructor) <;> fail)) (hg : scTs.contains ty = true := by rfl) (hv : cs[off]? = some v := by rfl) (hQ : ∀ c a w v, Q (.panic c) (a.put o.dst v) w → Q (.panic c) a w := by exact fun _ _ _ _ h => h) : wpAnyH Tryz.prog .any l.toArray Q (Held w K) (fuel + 1) listed a W :=
  tg_load1 hM hk.mem hn hs hf hr hw ho hx hl (scT hg) hv hQ h
theorem eM (i : Nat) {cs : List Value} {t : TypeId} {n : Nat} {C : List Value} (hM : Mem w W L) (h : wpAnyH Tryz.prog .any l.toArray Q (Held w K) fuel (listed.setIfInBounds i true) (a.put o.dst (.agg C.toArray)) W) (hk : Ks K L := by ((repeat constructor) <;> fail)) (hn : Nth l i o := by exact nthQ rfl)
 (hs : Region.noSelect l.toArray = true := by kernel_rfl) (hf : Region.free .any l.toArray listed i = true := by kernel_rfl) (hr : (Region.ready .any l.toArray listed).contains i = true := by kernel_rfl) (hw : Region.wanted o (yielded l.toArray a.tmps) = true := by rfl) {ty : TypeId} {x : Operand} (ho : o.op = .load ty x := by rfl) {g off : Nat} (hx : a.eval x = .pointer (some ⟨g, off, none⟩) := by rfl)
 (hl : Lk K g cs t := by ((repeat constructor) <;> fail)) (hg : aggTs.contains ty = true := by rfl) (hz : List.lookup ty (szTs ++ szS) = some n := by rfl) (hC : Part cs off n C := by ((repeat constructor) <;> fail)) (hQ : ∀ c a w v, Q (.panic c) (a.put o.dst v) w → Q (.panic c) a w := by exact fun _ _ _ _ h => h) : wpAnyH Tryz.prog .any l.toArray Q (Held w K) (fuel + 1) listed a W :=
  tg_load hM hk.mem hn hs hf hr hw ho hx hl (agT hg) (szT hz) hC hQ h
theorem eS {P : Program} (i : Nat) (hM : Mem w W L) (h : wpAnyH P .any l.toArray Q (Held w K) fuel (listed.setIfInBounds i true) (a.put o.dst undef) W) (hk : Ks K L := by ((repeat constructor) <;> fail)) (hn : Nth l i o := by exact nthQ rfl)
 (hs : Region.noSelect l.toArray = true := by kernel_rfl) (hf : Region.free .any l.toArray listed i = true := by kernel_rfl) (hr : (Region.ready .any l.toArray listed).contains i = true := by kernel_rfl)
 (hw : Region.wanted o (yielded l.toArray a.tmps) = false := by rfl) (hQ : ∀ c a w v, Q (.panic c) (a.put o.dst v) w → Q (.panic c) a w := by exact fun _ _ _ _ h => h) : wpAnyH P .any l.toArray Q (Held w K) (fuel + 1) listed a W :=
  tg_skip hM hk.mem hn hs hf hr hw hQ h
theorem eC {P : Program} (i : Nat) (h : ∀ K' : Act → World → Prop, Shut (∀ a w1, Held w K w1 → wpAnyH P .any l.toArray Q (Held w K) fuel (listed.setIfInBounds i true) a w1 → K' a w1) → Oper.wp P o a W K' Q)
 (hn : Nth l i o := by exact nthQ rfl) (hr : Region.ready .any l.toArray listed = [i] := by kernel_rfl) (hw : Region.wanted o (yielded l.toArray a.tmps) = true := by rfl) : wpAnyH P .any l.toArray Q (Held w K) (fuel + 1) listed a W := tg_call hn hr hw h
theorem eSC {P : Program} (i : Nat) (hM : Mem w W L) (h : wpAnyH P .any l.toArray Q (Held w K) fuel (listed.setIfInBounds i true) (a.put o.dst undef) W) (hk : Ks K L := by ((repeat constructor) <;> fail)) (hn : Nth l i o := by exact nthQ rfl) (hr : Region.ready .any l.toArray listed = [i] := by kernel_rfl)
 (hw : Region.wanted o (yielded l.toArray a.tmps) = false := by rfl) : wpAnyH P .any l.toArray Q (Held w K) (fuel + 1) listed a W := tg_skipc hM hk.mem hn hr hw h
end
section
variable {Q : Exit → Act → World → Prop} {a : Act} {w W : World} {L : List Box} {o : Oper} {X : Act → World → Prop}
theorem oO {v : Value} {ty : TypeId} {x : Operand} {g off : Nat} (hM : Mem w W L) (hc : w.cell? ⟨g, off, none⟩ = some v) (h : X (a.put o.dst v) W) (ho : o.op = .load ty x := by rfl) (hx : a.eval x = .pointer (some ⟨g, off, none⟩) := by rfl) (hg : scTs.contains ty = true := by rfl) : o.wp Tryz.prog a W X Q := by
 have hs := scT hg
 unfold Oper.wp execOp
 simp only [ho, hx, Instr.loadAt, Instr.sureAddr, Sem.run_bind, Sem.run_pure, Result.andThen_ok, loadVar, hs]
 have hl : (load ⟨g, off, none⟩).run Tryz.prog W = .ok v W := by simp [hM.old hc]
 simp [hl]
 exact h
end
theorem ent_ty {w : World} {b off : Nat} {x : En} (h : entAt w b off x) : w.cell? ⟨b, off + 1, none⟩ = some (.int .u8 x.ty) := h 1 _ rfl
end Go.Proofs.YtbhpklpkcgcmfaaGreatDoor
