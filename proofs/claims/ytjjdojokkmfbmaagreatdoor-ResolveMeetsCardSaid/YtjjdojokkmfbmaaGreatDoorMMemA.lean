/-
  append onto a slice that the call owns, with memory as a list of boxes: the slice's row is a box as well (its type: the elements').
-/
import Derived.Test.YtjjdojokkmfbmaaGreatDoorMMem
import Derived.Deep.AppendLies
import Derived.Great.BuildSlice
import Derived.Great.FillDense
namespace Go.Proofs.YtjjdojokkmfbmaaGreatDoor
open Go.RowKit
set_option linter.unusedVariables false
/-- the slice value v of n elements (type e, size cells each) holds xs; its row is the box of B (none: nil) -/
inductive Ows (e : TypeId) (size : Nat) : Value → Nat → List Value → List Box → Prop
  | nil : Ows e size (.slice none 0 0) 0 [] []
  | row {g cap n : Nat} {cur xs : List Value} : n ≤ cap → cap ≤ maxLen → cur.length = cap * size → cur.take (n * size) = xs → xs.length = n * size → Ows e size (.slice (some ⟨g, 0, none⟩) n cap) n xs [(g, cur, e)]
/-- the list is pre, then B -/
inductive Sx : List Box → List Box → List Box → Prop
  | here {B : List Box} : Sx B [] B
  | tail {e : Box} {L pre B : List Box} : Sx L pre B → Sx (e :: L) (e :: pre) B
theorem Sx.eq {L pre B : List Box} (h : Sx L pre B) : L = pre ++ B := by
  induction h with
  | here => rfl
  | tail _ ih => rw [ih]; rfl
theorem Ows.len {e : TypeId} {size : Nat} {v : Value} {n : Nat} {xs : List Value} {B : List Box} (h : Ows e size v n xs B) : xs.length = n * size := by
  cases h with
  | nil => simp
  | row _ _ _ _ h => exact h
theorem Ows.owns {w W : World} {L pre B : List Box} {e : TypeId} {size : Nat} {v : Value} {n : Nat} {xs : List Value} (h : Ows e size v n xs B) (hM : Mem w W L) (hs : L = pre ++ B) : W.ownsRow w.heap.size e size v n xs := by
  cases h with
  | nil => exact World.ownsRow_nil _ _ _ _
  | @row g cap n cur xs h1 h2 h3 h4 h5 =>
    have hr := hM.rows g cur e (by rw [hs]; simp)
    exact ⟨h5, .inr ⟨g, cap, cur.toArray, rfl, hr.1, hr.2, h1, h2, by simpa using h3, by simpa using h4⟩⟩
theorem Ows.block {e : TypeId} {size : Nat} {v : Value} {n : Nat} {xs : List Value} {B : List Box} (h : Ows e size v n xs B) : ∀ k, v.ownBlock = some k ↔ k ∈ B.map (·.1) := by
  intro k
  cases h with
  | nil => simp [Value.ownBlock]
  | row _ _ _ _ _ => simp [Value.ownBlock, eq_comm]
section
variable {P : Program} {w W : World} {L pre B : List Box}
theorem mem_appended {e : TypeId} {size : Nat} {v : Value} {n : Nat} {xs ys : List Value} {W' : World} {g cap n' : Nat} (hM : Mem w W L) (hs : L = pre ++ B) (hO : Ows e size v n xs B) (hg : W.grownBy W' v.ownBlock) (hat : v.ownBlock = some g ∨ g = W.heap.size)
    (hown : W'.ownsRow w.heap.size e size (.slice (some ⟨g, 0, none⟩) n' cap) n' ys) : ∃ B', Ows e size (.slice (some ⟨g, 0, none⟩) n' cap) n' ys B' ∧ Mem w W' (pre ++ B') := by
  obtain ⟨hl, hr⟩ := hown
  rcases hr with ⟨h, _⟩ | ⟨g2, cap2, cur, hv, hb, hrow, h1, h2, h3, h4⟩
  · cases h
  injection hv with hv1 hv2 hv3
  injection hv1 with hv1
  injection hv1 with hv1
  subst hv1 hv3
  have hnew : W'.heap[g]? = some (.cells cur.toList.toArray e (0, 0)) := by simpa using hrow
  have hpre : ∀ x ∈ pre, x.1 ≠ g := by
    intro x hx e1
    obtain ⟨x1, x2, x3⟩ := x
    simp only at e1
    subst e1
    rcases hat with h | h
    · have hm := (hO.block _).1 h
      have hd := hM.nodup
      rw [hs, List.map_append, List.nodup_append] at hd
      exact hd.2.2 _ (List.mem_map_of_mem (f := (·.1)) hx) _ hm rfl
    · have := hM.lt (show (x1, x2, x3) ∈ L by rw [hs]; exact List.mem_append_left _ hx)
      omega
  refine ⟨[(g, cur.toList, e)], .row h1 h2 (by simpa using h3) (by simpa using h4) hl, ⟨hg.os.trans hM.below.os, hg.tape.trans hM.below.tape, hg.output.trans hM.below.output, Nat.le_trans hM.below.size hg.size, fun k hk => ?_⟩, ?_, ?_⟩
  · refine (hg.block k (Nat.lt_of_lt_of_le hk hM.below.size) (fun he => ?_)).trans (hM.below.block k hk)
    have hm := (hO.block k).1 he.symm
    obtain ⟨⟨x1, x2, x3⟩, hx, e1⟩ := List.mem_map.1 hm
    have := (hM.rows x1 x2 x3 (by rw [hs]; exact List.mem_append_right _ hx)).1
    simp only at e1
    omega
  · intro g1 cs t hm
    rcases List.mem_append.1 hm with hm | hm
    · have h0 := hM.rows g1 cs t (by rw [hs]; exact List.mem_append_left _ hm)
      refine ⟨h0.1, (hg.block g1 (hM.lt (by rw [hs]; exact List.mem_append_left _ hm)) (fun he => ?_)).trans h0.2⟩
      have hB := (hO.block g1).1 he.symm
      have hd := hM.nodup
      rw [hs, List.map_append, List.nodup_append] at hd
      exact hd.2.2 _ (List.mem_map_of_mem (f := (·.1)) hm) _ hB rfl
    · simp only [List.mem_cons, List.not_mem_nil, or_false] at hm
      injection hm with e1 e2
      injection e2 with e2 e3
      subst e1 e2 e3
      exact ⟨hb, hnew⟩
  · have hd := hM.nodup
    rw [hs, List.map_append, List.nodup_append] at hd
    rw [List.map_append, List.nodup_append]
    refine ⟨hd.1, by simp, fun a ha b hb he => ?_⟩
    simp only [List.map_cons, List.map_nil, List.mem_cons, List.not_mem_nil, or_false] at hb
    obtain ⟨x, hx, e1⟩ := List.mem_map.1 ha
    exact hpre x hx (by rw [e1, he, hb])
/-- what the elements' type is -/
def elInfo (P : Program) (e : TypeId) (size bytes : Nat) : Prop := (P.info? e).map (fun i => (i.zero.map (·.cells.size), i.size, i.bytes)) = some (some size, size, bytes)
theorem mo_append {o : Oper} {a : Act} {K : Act → World → Prop} {Q : Exit → Act → World → Prop} {s x : Operand} {t : TypeId} (hM : Mem w W L)
    (ho : o.op = .call { callee := .builtin .append, args := #[s, x], argTypes := #[t, t] }) {e : TypeId} {size bytes : Nat} {v : Value} {n : Nat} {xs : List Value} (hs : a.eval s = v) {g1 c : Nat} (hx : a.eval x = .slice (some ⟨g1, 0, none⟩) 1 c)
    (hO : Ows e size v n xs B) (hS : Sx L pre B) (ht : P.underlying t = some (.slice e)) (hI : elInfo P e size bytes) {news : List Value} {tg : TypeId} (hl : Lk L g1 news tg) (hn : news.length = size) (h1 : ∀ u ∈ news, u.oneCell' = true) (hz : 0 < size) (hb : (n + 1) * bytes ≤ 140737488355328) (hm : n + 1 ≤ maxLen)
    (h : ∀ g cap B' W', Ows e size (.slice (some ⟨g, 0, none⟩) (n + 1) cap) (n + 1) (xs ++ news) B' → Mem w W' (pre ++ B') → K (a.put o.dst (.slice (some ⟨g, 0, none⟩) (n + 1) cap)) W') : o.wp P a W K Q := by
  obtain ⟨i, hi, hz0⟩ := Option.map_eq_some_iff.1 hI
  simp only [Prod.mk.injEq] at hz0
  obtain ⟨z1, z2, z3⟩ := hz0
  obtain ⟨z, hz3, hz4⟩ := Option.map_eq_some_iff.1 z1
  have hr := hM.rows g1 news tg hl.mem
  refine wp_append_lies W s x t ho w.heap.size e i z size bytes ht hi hz3 z2 z3 hz4 hz v n xs hs (hO.owns hM hS.eq) ⟨g1, 0, none⟩ 1 c news hx (by omega) (fun j u hj => World.news_of_block hr.2 j u (by simpa using hj)) h1 (by decide) hm hb hM.below.size _ rfl (fun g cap W' h2 h3 h4 _ => ?_)
  obtain ⟨B', hB, hM'⟩ := mem_appended hM hS.eq hO h3 h4 h2
  exact h g cap B' W' hB hM'
theorem ms_append {ops : Array Oper} {rest : List Oper} {o : Oper} {a : Act} {Q : Exit → Act → World → Prop} {s x : Operand} {t : TypeId} (hM : Mem w W L) (hgd : o.guard = none)
    (ho : o.op = .call { callee := .builtin .append, args := #[s, x], argTypes := #[t, t] }) {e : TypeId} {size bytes : Nat} {v : Value} {n : Nat} {xs : List Value} (hs : a.eval s = v) {g1 c : Nat} (hx : a.eval x = .slice (some ⟨g1, 0, none⟩) 1 c)
    (hO : Ows e size v n xs B) (hS : Sx L pre B) (ht : P.underlying t = some (.slice e)) (hI : elInfo P e size bytes) {news : List Value} {tg : TypeId} (hl : Lk L g1 news tg) (hn : news.length = size) (h1 : ∀ u ∈ news, u.oneCell' = true) (hz : 0 < size) (hb : (n + 1) * bytes ≤ 140737488355328) (hm : n + 1 ≤ maxLen)
    (h : ∀ g cap B' W', Ows e size (.slice (some ⟨g, 0, none⟩) (n + 1) cap) (n + 1) (xs ++ news) B' → Mem w W' (pre ++ B') → wpList P ops Q rest (a.put o.dst (.slice (some ⟨g, 0, none⟩) (n + 1) cap)) W') : wpList P ops Q (o :: rest) a W :=
  wpList_plain hgd fun _ hK => mo_append hM ho hs hx hO hS ht hI hl hn h1 hz hb hm fun g cap B' W' h2 h3 => hK _ _ (h g cap B' W' h2 h3)
/-- a slice of one element, made anew -/
theorem mo_bslice {o : Oper} {a : Act} {K : Act → World → Prop} {Q : Exit → Act → World → Prop} {t : TypeId} {x : Operand} (hM : Mem w W L) (ho : o.op = .buildSlice t 1 #[(0, x)]) {e : TypeId} {size bytes : Nat} {news : List Value} (hv : Ev (a.eval x) news)
    (hu : P.underlying t = some (.slice e)) (hI : elInfo P e size bytes) (hn : news.length = size) (hz : 0 < size) (hz2 : size ≤ 1000)
    (h : ∀ g W', Mem w W' ((g, news, e) :: L) → K (a.put o.dst (.slice (some ⟨g, 0, none⟩) 1 1)) W') : o.wp P a W K Q := by
  obtain ⟨i, hi, hz0⟩ := Option.map_eq_some_iff.1 hI
  simp only [Prod.mk.injEq] at hz0
  obtain ⟨z1, z2, z3⟩ := hz0
  obtain ⟨z, hz3, hz4⟩ := Option.map_eq_some_iff.1 z1
  have hc := hv.eq
  refine wp_buildSlice t e 1 _ ho news.toArray i z hu hi hz3 (by rw [z2]; omega) (by rw [z2]; omega) ?_ (h _ _ (mem_alloc hM news e))
  have := Great.fill_whole hz [a.eval x] ((Array.range (1 * size)).map (z.cells[· % z.cells.size]!)) (fun v h2 => by rw [List.mem_singleton.1 h2, hc]; simpa using hn) (by simp)
  rw [z2]
  simpa [hc] using this
theorem ms_bslice {ops : Array Oper} {rest : List Oper} {o : Oper} {a : Act} {Q : Exit → Act → World → Prop} {t : TypeId} {x : Operand} (hM : Mem w W L) (hgd : o.guard = none) (ho : o.op = .buildSlice t 1 #[(0, x)]) {e : TypeId} {size bytes : Nat} {news : List Value} (hv : Ev (a.eval x) news)
    (hu : P.underlying t = some (.slice e)) (hI : elInfo P e size bytes) (hn : news.length = size) (hz : 0 < size) (hz2 : size ≤ 1000)
    (h : ∀ g W', Mem w W' ((g, news, e) :: L) → wpList P ops Q rest (a.put o.dst (.slice (some ⟨g, 0, none⟩) 1 1)) W') : wpList P ops Q (o :: rest) a W :=
  wpList_plain hgd fun _ hK => mo_bslice hM ho hv hu hI hn hz hz2 fun g W' h2 => hK _ _ (h g W' h2)
end
/-- guards: the list begins with a slice literal; with an append -/
theorem at_bsx {ty : TypeId} {n : Nat} {ps : Array (Nat × Operand)} {P : Program} {ops : Array Oper} {rest : List Oper} {d : Option Tmp} {t : TypeId} {p : String} {l : Array Edge} {g : Option (Nat × Bool)} {Q : Exit → Act → World → Prop} {a : Act} {w : World}
    (h : wpList P ops Q ({ dst := d, op := .buildSlice ty n ps, type := t, pos := p, after := l, guard := g } :: rest) a w) : wpList P ops Q ({ dst := d, op := .buildSlice ty n ps, type := t, pos := p, after := l, guard := g } :: rest) a w := h
theorem at_apx {s x : Operand} {ts : Array TypeId} {P : Program} {ops : Array Oper} {rest : List Oper} {d : Option Tmp} {t : TypeId} {p : String} {l : Array Edge} {g : Option (Nat × Bool)} {Q : Exit → Act → World → Prop} {a : Act} {w : World}
    (h : wpList P ops Q ({ dst := d, op := .call { callee := .builtin .append, args := #[s, x], argTypes := ts }, type := t, pos := p, after := l, guard := g } :: rest) a w) : wpList P ops Q ({ dst := d, op := .call { callee := .builtin .append, args := #[s, x], argTypes := ts }, type := t, pos := p, after := l, guard := g } :: rest) a w := h
end Go.Proofs.YtjjdojokkmfbmaaGreatDoor
