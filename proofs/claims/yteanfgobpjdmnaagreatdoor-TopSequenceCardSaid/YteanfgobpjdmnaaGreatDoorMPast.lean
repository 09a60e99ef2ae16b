/-
  append of a whole slice onto a slice that the call owns, with memory as a list of boxes.
-/
import Derived.Test.YteanfgobpjdmnaaGreatDoorMMemR
import Derived.Test.YteanfgobpjdmnaaGreatDoorMElemM
namespace Go.Proofs.YteanfgobpjdmnaaGreatDoor
open Go.RowKit
set_option linter.unusedVariables false
set_option linter.unusedSimpArgs false
theorem Lj {e : TypeId} {size : Nat} {v : Value} {n : Nat} {xs : List Value} {B : List zz} (h : Jq e size v n xs B) : ∃ S cap, v = .slice S n cap ∧ n ≤ cap := by
 cases h with
 | nil => exact ⟨none, 0, rfl, Nat.le_refl _⟩
 | @row g cap n cur xs h1 _ _ _ _ => exact ⟨_, cap, rfl, h1⟩
theorem Ll {e : TypeId} {size : Nat} {S : Option Addr} {n cap : Nat} {xs : List Value} {B : List zz} (h : Jq e size (.slice S n cap) n xs B) (hn : 0 < n) : ∃ g cur, S = some ⟨g, 0, none⟩ ∧ B = [(g, cur, e)] ∧ cur.take (n * size) = xs := by
 cases h with
 | nil => omega
 | row _ _ _ h4 _ => exact ⟨_, _, rfl, rfl, h4⟩
section
variable {P : Program} {w W : World} {L pre B : List zz}
theorem AE {ops : Array Oper} {rest : List Oper} {o : Oper} {a : Act} {Q : Exit → Act → World → Prop} {s x : Operand} {t : TypeId} (hM : qQ w W L) (hgd : o.guard = none)
 (ho : o.op = .call { callee := .builtin .append, args := #[s, x], argTypes := #[t, t] }) {e : TypeId} {size bytes : Nat} {v : Value} {n : Nat} {xs : List Value} (hs : a.eval s = v) {g1 m c : Nat} (hx : a.eval x = .slice (some ⟨g1, 0, none⟩) m c)
 (hO : Jq e size v n xs B) (hS : Sx L pre B) (ht : P.underlying t = some (.slice e)) (hI : xc P e size bytes) {cur news : List Value} {tg : TypeId} (hl : Lk L g1 cur tg) (hc : cur.take (m * size) = news) (hn : news.length = m * size) (h1 : ∀ u ∈ news, u.oneCell' = true) (hz : 0 < size) (hm0 : 0 < m) (hb : (n + m) * bytes ≤ 140737488355328) (hm : n + m ≤ maxLen)
 (h : ∀ g cap B' W', Jq e size (.slice (some ⟨g, 0, none⟩) (n + m) cap) (n + m) (xs ++ news) B' → qQ w W' (pre ++ B') → wpList P ops Q rest (a.put o.dst (.slice (some ⟨g, 0, none⟩) (n + m) cap)) W') : wpList P ops Q (o :: rest) a W :=
 wpList_plain hgd fun K hK => by
  obtain ⟨i, hi, hz0⟩ := Option.map_eq_some_iff.1 hI
  simp only [Prod.mk.injEq] at hz0
  obtain ⟨z1, z2, z3⟩ := hz0
  obtain ⟨z, hz3, hz4⟩ := Option.map_eq_some_iff.1 z1
  have hr := hM.rows g1 cur tg hl.mem
  refine wp_append_lies W s x t ho w.heap.size e i z size bytes ht hi hz3 z2 z3 hz4 hz v n xs hs (hO.owns hM hS.eq) ⟨g1, 0, none⟩ m c news hx hn (fun j u hj => World.news_of_block hr.2 j u ?_) h1 hm0 hm hb hM.below.size _ rfl (fun g cap W' h2 h3 h4 _ => ?_)
  · have hj2 : j < m * size := by have := (List.getElem?_eq_some_iff.1 hj).1; omega
    rw [← hc, List.getElem?_take, if_pos hj2] at hj
    simpa using hj
  · obtain ⟨B', hB, hM'⟩ := xb hM hS.eq hO h3 h4 h2
    exact hK _ _ (h g cap B' W' hB hM')
theorem AF {ops : Array Oper} {rest : List Oper} {o : Oper} {a : Act} {Q : Exit → Act → World → Prop} {s x : Operand} {t e : TypeId} {size bytes : Nat} (hgd : o.guard = none)
 (ho : o.op = .call { callee := .builtin .append, args := #[s, x], argTypes := #[t, t] }) {S S2 : Option Addr} {n cap c : Nat} (hs : a.eval s = .slice S n cap) (hx : a.eval x = .slice S2 0 c) (hcap : n ≤ cap) (ht : P.underlying t = some (.slice e)) (hI : xc P e size bytes)
 (h : wpList P ops Q rest (a.put o.dst (.slice S n cap)) W) : wpList P ops Q (o :: rest) a W :=
 wpList_plain hgd fun K hK => by
  obtain ⟨i, hi, hz0⟩ := Option.map_eq_some_iff.1 hI
  simp only [Prod.mk.injEq] at hz0
  obtain ⟨z1, z2, z3⟩ := hz0
  have hr : (Builtin.append_ #[t, t] o.type #[.slice S n cap, .slice S2 0 c]).run P W = .ok (.slice S n cap) W := by
   rcases S with _ | b <;> rcases S2 with _ | b2 <;> simp [Builtin.append_, run_underlying ht, sizeOf, typeInfo, hi, Builtin.lenOf, Builtin.firstCells, loadCells, loadCellsFrom, hcap, storeCells]
  unfold Oper.wp execOp
  simp only [ho, resolve, invoke, builtin, Sem.run_bind, Sem.run_pure, Result.andThen_ok, List.map_toArray, List.map_cons, List.map_nil, hs, hx, hr]
  exact hK _ _ h
end
theorem Lr {w W : World} {L L' : List zz} (h : qQ w W L) (hs : L'.Sublist L) : qQ w W L' :=
 ⟨h.below, fun g cs t hm => h.rows g cs t (hs.subset hm), List.Nodup.sublist (hs.map _) h.nodup⟩
set_option maxRecDepth 100000 in
set_option maxHeartbeats 8000000 in
theorem Eg (c g : Bool) (ax ay bx b_y cx cy r f s L n px py : Int) (w : World) :
 Calls Tryz.prog 17 #[.agg #[.bool c, .int .i64 ax, .int .i64 ay, .int .i64 bx, .int .i64 b_y, .int .i64 cx, .int .i64 cy, .int .i64 r, .int .i64 f, .int .i64 s, .int .i64 L, .int .i64 n, .bool g], .agg #[.int .i64 px, .int .i64 py]] w fun e w' => e = .returned (.bool (Ed c ax ay bx b_y cx cy r f s px py)) ∧ Below w.heap.size w w' := by
 have hM := qB w
 have PvQ := fun W => qo px py W
 have PA := fun W => qo ax ay W
 have PB := fun W => qo bx b_y W
 unfold Ed
 rcases hq : qf px py with _ | _
 · rw [hq] at PvQ
   rw [Bool.false_and, Bool.false_and, if_pos (by simp)]
   clear hq
   go_enter Tryz.func17, Tryz.ntmps17
   go_wp2_with (first | (go_at_call 16; (first | (with_reducible refine cb hM (PvQ _) ?_) | (with_reducible refine cb hM (PA _) ?_) | (with_reducible refine cb hM (PB _) ?_)); clear hM; intro W1 hM) | ((with_reducible refine lX ?_); refine mL ?_) | ((with_reducible refine sX ?_); refine mS ?_; clear hM; intro W hM) | ((with_reducible refine bX ?_); refine mB ?_; clear hM; intro g W hM) | ((with_reducible refine zX ?_); refine mB ?_; clear hM; intro g W hM))
   all_goals
    go_ret
    exact ⟨rfl, hM.below⟩
 rcases ha : qf ax ay with _ | _
 · rw [hq] at PvQ
   rw [ha] at PA
   rw [Bool.and_false, Bool.false_and, if_pos (by simp)]
   clear hq ha
   go_enter Tryz.func17, Tryz.ntmps17
   go_wp2_with (first | (go_at_call 16; (first | (with_reducible refine cb hM (PvQ _) ?_) | (with_reducible refine cb hM (PA _) ?_) | (with_reducible refine cb hM (PB _) ?_)); clear hM; intro W1 hM) | ((with_reducible refine lX ?_); refine mL ?_) | ((with_reducible refine sX ?_); refine mS ?_; clear hM; intro W hM) | ((with_reducible refine bX ?_); refine mB ?_; clear hM; intro g W hM) | ((with_reducible refine zX ?_); refine mB ?_; clear hM; intro g W hM))
   all_goals
    go_ret
    exact ⟨rfl, hM.below⟩
 rcases hb : qf bx b_y with _ | _
 · rw [hq] at PvQ
   rw [ha] at PA
   rw [hb] at PB
   rw [Bool.and_false, if_pos (by simp)]
   clear hq ha hb
   go_enter Tryz.func17, Tryz.ntmps17
   go_wp2_with (first | (go_at_call 16; (first | (with_reducible refine cb hM (PvQ _) ?_) | (with_reducible refine cb hM (PA _) ?_) | (with_reducible refine cb hM (PB _) ?_)); clear hM; intro W1 hM) | ((with_reducible refine lX ?_); refine mL ?_) | ((with_reducible refine sX ?_); refine mS ?_; clear hM; intro W hM) | ((with_reducible refine bX ?_); refine mB ?_; clear hM; intro g W hM) | ((with_reducible refine zX ?_); refine mB ?_; clear hM; intro g W hM))
   all_goals
    go_ret
    exact ⟨rfl, hM.below⟩
 rw [hq] at PvQ
 rw [ha] at PA
 rw [hb] at PB
 rw [if_neg (by simp)]
 rcases c with _ | _
 · rw [if_neg (by simp)]
   have AH := fun W => bo ax ay bx b_y px py W
   generalize BH ax ay bx b_y px py = d at *
   clear hq ha hb
   go_enter Tryz.func17, Tryz.ntmps17
   go_wp2_with (first | (go_at_call 16; (first | (with_reducible refine cb hM (PvQ _) ?_) | (with_reducible refine cb hM (PA _) ?_) | (with_reducible refine cb hM (PB _) ?_)); clear hM; intro W1 hM) | (go_at_call 41; (first | (with_reducible refine cb hM (AH _) ?_)); clear hM; intro W1 hM) | ((with_reducible refine lX ?_); refine mL ?_) | ((with_reducible refine sX ?_); refine mS ?_; clear hM; intro W hM) | ((with_reducible refine bX ?_); refine mB ?_; clear hM; intro g W hM) | ((with_reducible refine zX ?_); refine mB ?_; clear hM; intro g W hM))
   all_goals
    go_ret
    exact ⟨yH (by first | rfl | simp), hM.below⟩
 rw [if_pos rfl]
 have TV := fun W => xw cx cy r f s W
 rcases hB : yX cx cy r f s with _ | _
 · rw [hB] at TV
   rw [if_pos (by simp)]
   clear hq ha hb hB
   go_enter Tryz.func17, Tryz.ntmps17
   go_wp2_with (first | (go_at_call 16; (first | (with_reducible refine cb hM (PvQ _) ?_) | (with_reducible refine cb hM (PA _) ?_) | (with_reducible refine cb hM (PB _) ?_)); clear hM; intro W1 hM) | (go_at_call 42; (first | (with_reducible refine cb hM (TV _) ?_)); clear hM; intro W1 hM) | ((with_reducible refine lX ?_); refine mL ?_) | ((with_reducible refine sX ?_); refine mS ?_; clear hM; intro W hM) | ((with_reducible refine bX ?_); refine mB ?_; clear hM; intro g W hM) | ((with_reducible refine zX ?_); refine mB ?_; clear hM; intro g W hM))
   all_goals
    go_ret
    exact ⟨rfl, hM.below⟩
 rw [hB] at TV
 by_cases he : px = cx ∧ py = cy
 · obtain ⟨rfl, rfl⟩ := he
   rw [if_pos (by simp)]
   clear hq ha hb hB
   go_enter Tryz.func17, Tryz.ntmps17
   go_wp2_with (first | (go_at_call 16; (first | (with_reducible refine cb hM (PvQ _) ?_) | (with_reducible refine cb hM (PA _) ?_) | (with_reducible refine cb hM (PB _) ?_)); clear hM; intro W1 hM) | (go_at_call 42; (first | (with_reducible refine cb hM (TV _) ?_)); clear hM; intro W1 hM) | ((with_reducible refine lX ?_); refine mL ?_) | ((with_reducible refine sX ?_); refine mS ?_; clear hM; intro W hM) | ((with_reducible refine bX ?_); refine mB ?_; clear hM; intro g W hM) | ((with_reducible refine zX ?_); refine mB ?_; clear hM; intro g W hM))
   all_goals
    go_ret
    exact ⟨rfl, hM.below⟩
 rw [if_neg (by simp [he])]
 have T : ((px == cx) = true ∧ (py == cy) = false) ∨ (px == cx) = false := by
  by_cases hx0 : px = cx
  · left; simp [hx0]; intro hy0; exact he ⟨hx0, hy0⟩
  · right; simp [hx0]
 obtain ⟨hv, ⟨b1, b2⟩, ⟨b3, b4⟩, b5, b6⟩ := UK hB
 have CS := fun W => yd cx cy px py W
 have cbd := Zf cx cy px py
 clear hB hq ha hb he hv
 generalize (qF cx cy px py).2 = ce at *
 generalize (qF cx cy px py).1 = c at *
 have AB := fun W => kr s (by unfold qH; omega) (by omega) W
 by_cases hs : 0 ≤ s
 ·
  have t0 : decide (0 ≤ s) = true := decide_eq_true hs
  rw [t0]
  have SW := fun W => TJ f c (by unfold qH; omega) (by unfold qH; omega) W
  rw [show norm (norm c - norm f) = kK true f c from rfl] at SW
  have sw : 0 ≤ kK true f c ∧ kK true f c < 129600000 := zM _
  clear t0
  generalize kK true f c = u at *
  have ab : 0 ≤ (s.natAbs : Int) ∧ (s.natAbs : Int) ≤ 129600000 := by omega
  generalize (s.natAbs : Int) = a at *
  rcases T with ⟨t1, t2⟩ | t1
  all_goals
   go_enter Tryz.func17, Tryz.ntmps17
   go_upto_region 12 with (first | (go_at_call 16; (first | (with_reducible refine cb hM (PvQ _) ?_) | (with_reducible refine cb hM (PA _) ?_) | (with_reducible refine cb hM (PB _) ?_)); clear hM; intro W1 hM) | (go_at_call 42; (first | (with_reducible refine cb hM (TV _) ?_)); clear hM; intro W1 hM) | (go_at_call 8; (first | (with_reducible refine cb hM (CS _) ?_)); clear hM; intro W1 hM) | ((with_reducible refine lX ?_); refine mL ?_) | ((with_reducible refine sX ?_); refine mS ?_; clear hM; intro W hM) | ((with_reducible refine bX ?_); refine mB ?_; clear hM; intro g W hM) | ((with_reducible refine zX ?_); refine mB ?_; clear hM; intro g W hM))
   obtain ⟨gx, rfl⟩ : ∃ gx, gx = g := ⟨_, rfl⟩
   try simp only [pS, pN, sA, sB, sC]
   refine qW [(gx, [.int .i64 cx, .int .i64 cy, .int .i64 r, .int .i64 f, .int .i64 s], 47)] hM (by kernel_rfl) ?_; (clear hM; intro W hM)
   refine rD 0 ?_
   refine rD 1 ?_
   refine rD 2 ?_
   refine rD 3 ?_
   refine rD 5 ?_
   refine rD 6 ?_
   refine dC 4 (fun K' hK' => ?_)
   go_wp2_with (first | (go_at_call 43; (with_reducible refine (SW _).mono ?_); rintro e W1 ⟨rfl, rfl⟩) | (go_at_call 44; (with_reducible refine (AB _).mono ?_); rintro e W1 ⟨rfl, rfl⟩))
   refine rK hK' hM ?_; clear hK' K'
   refine dC 7 (fun K' hK' => ?_)
   go_wp2_with (first | (go_at_call 43; (with_reducible refine (SW _).mono ?_); rintro e W1 ⟨rfl, rfl⟩) | (go_at_call 44; (with_reducible refine (AB _).mono ?_); rintro e W1 ⟨rfl, rfl⟩))
   refine rK hK' hM ?_; clear hK' K'
   refine rD 8 ?_
   refine rD 9 ?_
   refine qE (by kernel_rfl) ?_
   go_wp2_with fail
   all_goals
    go_ret
    exact ⟨yH (by rw [Bool.eq_iff_iff]; simp; try omega), hM.below⟩
 ·
  have t0 : decide (0 ≤ s) = false := decide_eq_false hs
  rw [t0]
  have SW := fun W => nG f c (by unfold qH; omega) (by unfold qH; omega) W
  rw [show norm (norm f - norm c) = kK false f c from rfl] at SW
  have sw : 0 ≤ kK false f c ∧ kK false f c < 129600000 := zM _
  clear t0
  generalize kK false f c = u at *
  have ab : 0 ≤ (s.natAbs : Int) ∧ (s.natAbs : Int) ≤ 129600000 := by omega
  generalize (s.natAbs : Int) = a at *
  rcases T with ⟨t1, t2⟩ | t1
  all_goals
   go_enter Tryz.func17, Tryz.ntmps17
   go_upto_region 12 with (first | (go_at_call 16; (first | (with_reducible refine cb hM (PvQ _) ?_) | (with_reducible refine cb hM (PA _) ?_) | (with_reducible refine cb hM (PB _) ?_)); clear hM; intro W1 hM) | (go_at_call 42; (first | (with_reducible refine cb hM (TV _) ?_)); clear hM; intro W1 hM) | (go_at_call 8; (first | (with_reducible refine cb hM (CS _) ?_)); clear hM; intro W1 hM) | ((with_reducible refine lX ?_); refine mL ?_) | ((with_reducible refine sX ?_); refine mS ?_; clear hM; intro W hM) | ((with_reducible refine bX ?_); refine mB ?_; clear hM; intro g W hM) | ((with_reducible refine zX ?_); refine mB ?_; clear hM; intro g W hM))
   obtain ⟨gx, rfl⟩ : ∃ gx, gx = g := ⟨_, rfl⟩
   try simp only [pS, pN, sA, sB, sC]
   refine qW [(gx, [.int .i64 cx, .int .i64 cy, .int .i64 r, .int .i64 f, .int .i64 s], 47)] hM (by kernel_rfl) ?_; (clear hM; intro W hM)
   refine rD 0 ?_
   refine rD 1 ?_
   refine rD 2 ?_
   refine rD 3 ?_
   refine rD 5 ?_
   refine rD 6 ?_
   refine dC 4 (fun K' hK' => ?_)
   go_wp2_with (first | (go_at_call 43; (with_reducible refine (SW _).mono ?_); rintro e W1 ⟨rfl, rfl⟩) | (go_at_call 44; (with_reducible refine (AB _).mono ?_); rintro e W1 ⟨rfl, rfl⟩))
   refine rK hK' hM ?_; clear hK' K'
   refine dC 7 (fun K' hK' => ?_)
   go_wp2_with (first | (go_at_call 43; (with_reducible refine (SW _).mono ?_); rintro e W1 ⟨rfl, rfl⟩) | (go_at_call 44; (with_reducible refine (AB _).mono ?_); rintro e W1 ⟨rfl, rfl⟩))
   refine rK hK' hM ?_; clear hK' K'
   refine rD 8 ?_
   refine rD 9 ?_
   refine qE (by kernel_rfl) ?_
   go_wp2_with fail
   all_goals
    go_ret
    exact ⟨yH (by rw [Bool.eq_iff_iff]; simp; try omega), hM.below⟩
set_option maxRecDepth 100000
set_option maxHeartbeats 16000000
theorem Ln : xc Tryz.prog 3 1 8 := by unfold xc; kernel_rfl
theorem Lm {w W : World} {L : List zz} (hM : qQ w W L) {S : Option Addr} {l : List El} (h : yI w S l) : yI W S l := jf hM.below h
section
variable {l : List Oper} {Q : Exit → Act → World → Prop} {a : Act} {w W : World} {L K : List zz} {o : Oper} {fuel : Nat} {listed : Array Bool}
theorem RQ (i : Nat) {C : List Value} {g off : Nat} {ty : TypeId} {x : Operand} (hM : qQ w W L) (hC : ∀ (j : Nat) (v : Value), C[j]? = some v → w.cell? ⟨g, off + j, none⟩ = some v)
 (h : wpAnyH Tryz.prog .any l.toArray Q (Held w K) fuel (listed.setIfInBounds i true) (a.put o.dst (.agg C.toArray)) W) (hk : Ks K L := by ((repeat constructor) <;> fail)) (hn : gV l i o := by exact jL rfl)
 (hs : Region.noSelect l.toArray = true := by kernel_rfl) (hf : Region.free .any l.toArray listed i = true := by kernel_rfl) (hr : (Region.ready .any l.toArray listed).contains i = true := by kernel_rfl) (hw : Region.wanted o (yielded l.toArray a.tmps) = true := by rfl)
 (ho : o.op = .load ty x := by rfl) (hx : a.eval x = .pointer (some ⟨g, off, none⟩) := by rfl) (hg : Qa.contains ty = true := by rfl) (hz : List.lookup ty (JG ++ fa) = some C.length := by rfl)
 (hQ : ∀ c a w v, Q (.panic c) (a.put o.dst v) w → Q (.panic c) a w := by exact fun _ _ _ _ h => h) : wpAnyH Tryz.prog .any l.toArray Q (Held w K) (fuel + 1) listed a W :=
  wpAnyH_take hn.get hs hf hr (fun c a w => hQ c a w _) (.inl ⟨hw, fun W1 hS => by
   unfold execOp
   simp only [ho, hx, Instr.loadAt, Instr.sureAddr, Sem.run_bind, Sem.run_pure, Result.andThen_ok, jk ty g off C.length C (BC hg) (vK W1 (Qu hz)) rfl (fun j v hj => hS.old (hC j v hj))]⟩) (zV hM hk.mem) h
end
theorem LF (b o : Nat) (els : List El) (capV : Nat) (len : Int) (k : Nat) (w : World) (h5 : els.length ≤ 500) (hk : k < els.length) (hp : Hid (yI w (some ⟨b, o, none⟩) els)) :
 Calls Tryz.prog 18 #[.agg #[.slice (some ⟨b, o, none⟩) els.length capV, .int .i64 len], .int .i64 k] w fun e w' => e = .returned (.bool (EG els k)) ∧ Below w.heap.size w w' := by
 have hM := qB w
 obtain ⟨lm, hlm⟩ : ∃ i, els.length = i + 1 := ⟨els.length - 1, by omega⟩
 have iw : IntKind.i64.wrap ((els.length : Int) - 1) = lm := by rw [show (els.length : Int) - 1 = lm by omega]; exact IntWalk.i64_in _ (by omega)
 rcases hz : els[k + 1]? with _ | z
 · have hL : EG els k = true := by unfold EG; rw [hz]
   rw [hL]
   have hkl : k = lm := by have := List.getElem?_eq_none_iff.1 hz; omega
   have e1 : ((k : Int) == (lm : Int)) = true := by simp [hkl]
   have e2 : (k == lm) = true := by simp [hkl]
   clear hz hL hlm hkl
   go_enter Tryz.func18, Tryz.ntmps18
   go_wp2_with (first | ((with_reducible refine lX ?_); refine mL ?_) | ((with_reducible refine sX ?_); refine mS ?_; clear hM; intro W hM) | ((with_reducible refine bX ?_); refine mB ?_; clear hM; intro g W hM) | ((with_reducible refine zX ?_); refine mB ?_; clear hM; intro g W hM))
   all_goals
    go_ret
    exact ⟨by first | rfl | simp [*], hM.below⟩
 · have hL : EG els k = z.g := by unfold EG; rw [hz]
   rw [hL]
   have hk2 := (List.getElem?_eq_some_iff.1 hz).1
   have e1 : ((k : Int) == (lm : Int)) = false := by simp; omega
   have e2 : (k == lm) = false := by simp; omega
   have w1 := IntWalk.i64_in ((k : Int) + 1) (by omega)
   obtain ⟨bz_, oz_, e3, helz⟩ := hp.out (k + 1) z hz
   simp only [Option.some.injEq, Addr.mk.injEq, and_true] at e3
   obtain ⟨rfl, rfl⟩ := e3
   have HZA := hide (VK helz)
   have k3 : (k : Int) + 1 < (els.length : Int) := by omega
   clear hz hL helz hlm
   go_enter Tryz.func18, Tryz.ntmps18
   go_wp2_with (first | ((with_reducible refine lX ?_); refine QE hM rfl (by first | exact rfl | (go_simp; done)) rfl (mT rfl) (HZA.out 12 _ rfl) ?_) | ((with_reducible refine lX ?_); refine mL ?_) | ((with_reducible refine sX ?_); refine mS ?_; clear hM; intro W hM) | ((with_reducible refine bX ?_); refine mB ?_; clear hM; intro g W hM) | ((with_reducible refine zX ?_); refine mB ?_; clear hM; intro g W hM))
   all_goals
    go_ret
    exact ⟨by first | rfl | simp [*], hM.below⟩
theorem LD (SV : Option Addr) (els : List El) (capV : Nat) (len : Int) (y : El) (w : World) (hc : vX els len = 0) (hy : els[0]? = some y) (hp : Hid (yI w SV els)) :
 Calls Tryz.prog 6 #[.agg #[.slice SV els.length capV, .int .i64 len], .int .i64 0] w fun e w' => e = .returned (.tuple #[.agg #[.int .i64 0, .int .i64 y.n, .bool false], .int .i64 0]) ∧ Below w.heap.size w w' := by
 have l5 := (JR hc).short
 have CK := fun W h => aU SV els capV len W (by omega) h
 rw [hc] at CK
 have hk := (List.getElem?_eq_some_iff.1 hy).1
 obtain ⟨b, o, rfl, hel⟩ := hp.out 0 y hy
 have HYA := hide (VK hel)
 have k3 : ¬ (els.length : Int) ≤ 0 := by omega
 have k4 := decide_eq_false k3
 have k5 : ¬ els.length ≤ 0 := by omega
 have k6 := decide_eq_false k5
 have k7 : (0 : Int) < (els.length : Int) := by omega
 have k8 : ¬ els.length = 0 := by omega
 have k9 := decide_eq_false k8
 have hM := qB w
 clear hc hy hel
 go_enter Tryz.func6, Tryz.ntmps6
 go_wp2_with (first | (go_at_call 15; (with_reducible refine cb hM (CK _ (hide (Lm hM hp.out))) ?_); clear hM; intro W1 hM) | ((with_reducible refine lX ?_); refine QE hM rfl (by first | exact rfl | (go_simp; done)) rfl (mT rfl) (by first | exact HYA.out 11 _ rfl | (simpa using HYA.out 11 _ rfl)) ?_) | ((with_reducible refine lX ?_); refine mL ?_) | ((with_reducible refine sX ?_); refine mS ?_; clear hM; intro W hM) | ((with_reducible refine bX ?_); refine mB ?_; clear hM; intro g W hM) | ((with_reducible refine zX ?_); refine mB ?_; clear hM; intro g W hM))
 all_goals
  (refine' qR hM rfl rfl Tryz.isAgg51 Tryz.sizeOf51 rfl rfl ?_ ?_ ⟨?_, hM.below⟩; rotate_left 2; (· repeat constructor); (· rfl); (· rfl))
theorem Lx {w W : World} {L : List zz} (h : qQ w W L) : qQ w W [] := ⟨h.below, (fun _ _ _ h => by cases h), List.nodup_nil⟩
theorem Lt (SV : Option Addr) (els : List El) (capV : Nat) (len el en : Int) (dNe : Bool) (px py : Int) (w : World) (hc : vX els len = 0) (hv : qf px py = true) (hp : Hid (yI w SV els)) (hd : dNe = true ∨ (dNe = false ∧ ∃ (k : Nat) (x : El), el = (k : Int) ∧ els[k]? = some x)) (R : Int × Int × Bool × List Int) (hR : R = zp els len el en dNe px py) :
 Calls Tryz.prog 7 #[.agg #[.slice SV els.length capV, .int .i64 len], .agg #[.int .i64 el, .int .i64 en, .bool dNe], .agg #[.int .i64 px, .int .i64 py]] w fun e w' => ∃ (V : Value) (B : List zz), e = .returned (.tuple #[.agg #[.int .i64 R.1, .int .i64 R.2.1, .bool R.2.2.1], V]) ∧ Jq 3 1 V R.2.2.2.length (R.2.2.2.map (Value.int .i64)) B ∧ qQ w w' B := by
 have l5 := (JR hc).short
 have CK := fun W h => aU SV els capV len W (by omega) h
 rw [hc] at CK
 have PvQ := fun W => qo px py W
 rw [hv] at PvQ
 have hM := qB w
 rcases hd with rfl | ⟨rfl, k0, x0, rfl, hx0⟩
 · have HR : Hid (R = (el, en, true, [])) := hide (by rw [hR]; unfold zp; rw [if_neg (by simp [hc]), if_neg (by simp [hv]), if_pos rfl])
   clear hR hc hv
   go_enter Tryz.func7, Tryz.ntmps7
   go_upto_region 0 with fail
   try simp only [pS, pN, sA, sB, sC]
   go_cut [3, 4, 5, 6] (fun s3 s4 s5 s6 wx => ∃ gp gg gq gr : Nat, s3 = .pointer (some ⟨gp, 0, none⟩) ∧ s4 = .pointer (some ⟨gg, 0, none⟩) ∧ s5 = .pointer (some ⟨gq, 0, none⟩) ∧ s6 = .pointer (some ⟨gr, 0, none⟩) ∧ qQ w wx ((gr, [.int .i64 0, .int .i64 0, .bool false], 51) :: (gq, [.int .i64 px, .int .i64 py], 26) :: (gg, [.int .i64 el, .int .i64 en, .bool true], 51) :: (gp, [.slice SV els.length capV, .int .i64 len], 42) :: []))
   case first =>
    go_wp2_with (first | ((with_reducible refine lX ?_); refine mL ?_) | ((with_reducible refine sX ?_); refine mS ?_; clear hM; intro W hM) | ((with_reducible refine bX ?_); refine mB ?_; clear hM; intro g W hM) | ((with_reducible refine zX ?_); refine mB ?_; clear hM; intro g W hM))
    all_goals
     go_meet
     exact ⟨_, _, _, _, rfl, rfl, rfl, rfl, hM⟩
   case rest =>
   clear hM
   obtain ⟨gp, gg, gq, gr, rfl, rfl, rfl, rfl, hM⟩ := hcut
   go_wp2_with (first | (go_at_call 15; (with_reducible refine cb hM (CK _ (hide (Lm hM hp.out))) ?_); clear hM; intro W1 hM) | (go_at_call 16; (with_reducible refine cb hM (PvQ _) ?_); clear hM; intro W1 hM) | ((with_reducible refine lX ?_); refine mL ?_) | ((with_reducible refine sX ?_); refine mS ?_; clear hM; intro W hM))
   all_goals
    (refine' qR hM rfl rfl Tryz.isAgg51 Tryz.sizeOf51 rfl rfl ?_ ?_ ⟨.slice none 0 0, [], ?_, ?_, ?_⟩; rotate_left 2; (· repeat constructor); (· rfl); (· rw [HR.out]; rfl); (· rw [HR.out]; exact .nil); (· exact Lx hM))
 have hk0 := (List.getElem?_eq_some_iff.1 hx0).1
 have HQ : Hid (stepG els px py (els.length - k0) k0 x0.n [] = (R.1.toNat, R.2.1, R.2.2.1, R.2.2.2) ∧ R.1 = (R.1.toNat : Int)) := hide (by
  rw [hR]
  unfold zp
  rw [if_neg (by simp [hc]), if_neg (by simp [hv]), if_neg (by simp), if_neg (by omega)]
  simp only [Int.toNat_natCast, hx0]
  constructor <;> first | rfl | trivial)
 clear hR hc hv
 obtain ⟨b, o, rfl, hel0⟩ := hp.out k0 x0 hx0
 have HXA := hide (VK hel0)
 have HX0 := hide hx0
 have bk1 : decide (els.length ≤ k0) = false := decide_eq_false (by omega)
 have bk2 : decide ((k0 : Int) < 0) = false := decide_eq_false (by omega)
 have bk3 : ¬ els.length ≤ k0 := by omega
 clear hel0 hx0
 go_enter Tryz.func7, Tryz.ntmps7
 go_upto_region 0 with fail
 try simp only [pS, pN, sA, sB, sC]
 go_cut [3, 4, 5, 6] (fun s3 s4 s5 s6 wx => ∃ gp gg gq gr : Nat, s3 = .pointer (some ⟨gp, 0, none⟩) ∧ s4 = .pointer (some ⟨gg, 0, none⟩) ∧ s5 = .pointer (some ⟨gq, 0, none⟩) ∧ s6 = .pointer (some ⟨gr, 0, none⟩) ∧ qQ w wx ((gr, [.int .i64 0, .int .i64 0, .bool false], 51) :: (gq, [.int .i64 px, .int .i64 py], 26) :: (gg, [.int .i64 k0, .int .i64 en, .bool false], 51) :: (gp, [.slice (some ⟨b, o, none⟩) els.length capV, .int .i64 len], 42) :: []))
 case first =>
  go_wp2_with (first | ((with_reducible refine lX ?_); refine mL ?_) | ((with_reducible refine sX ?_); refine mS ?_; clear hM; intro W hM) | ((with_reducible refine bX ?_); refine mB ?_; clear hM; intro g W hM) | ((with_reducible refine zX ?_); refine mB ?_; clear hM; intro g W hM))
  all_goals
   go_meet
   exact ⟨_, _, _, _, rfl, rfl, rfl, rfl, hM⟩
 case rest =>
 clear hM
 obtain ⟨gp, gg, gq, gr, rfl, rfl, rfl, rfl, hM⟩ := hcut
 go_upto_region 5 with (first | (go_at_call 15; (with_reducible refine cb hM (CK _ (hide (Lm hM hp.out))) ?_); clear hM; intro W1 hM) | (go_at_call 16; (with_reducible refine cb hM (PvQ _) ?_); clear hM; intro W1 hM) | ((with_reducible refine lX ?_); refine QE hM rfl (by first | exact rfl | (go_simp; done)) rfl (mT rfl) (HXA.out 11 _ rfl) ?_) | ((with_reducible refine lX ?_); refine mL ?_) | ((with_reducible refine sX ?_); refine mS ?_; clear hM; intro W hM))
 try simp only [pS, pN, sA, sB, sC]
 go_loopg [8] (els.length - k0) (fun m v wx => ∃ (k : Nat) (y : El) (ts : List Int) (B : List zz), k < els.length ∧ m = els.length - k ∧ Hid (els[k]? = some y) ∧ Hid (stepG els px py (els.length - k) k y.n ts = (R.1.toNat, R.2.1, R.2.2.1, R.2.2.2)) ∧ ts.length ≤ k ∧ Hid (Jq 3 1 v ts.length (ts.map (Value.int .i64)) B) ∧ qQ w wx ((gr, [.int .i64 0, .int .i64 0, .bool false], 51) :: (gq, [.int .i64 px, .int .i64 py], 26) :: (gg, [.int .i64 k, .int .i64 y.n, .bool false], 51) :: (gp, [.slice (some ⟨b, o, none⟩) els.length capV, .int .i64 len], 42) :: B))
 case atStart => exact ⟨k0, x0, [], [], hk0, rfl, HX0, hide HQ.out.1, Nat.zero_le _, hide .nil, hM⟩
 case round =>
  clear hM
  obtain ⟨k, y, ts, B, hk1, rfl, HY, G, hts, HO, hM⟩ := hrel
  obtain ⟨bb, oo, e2, hely⟩ := hp.out k y HY.out
  simp only [Option.some.injEq, Addr.mk.injEq, and_true] at e2
  obtain ⟨rfl, rfl⟩ := e2
  have HYA := hide (VK hely)
  have hfu : els.length - k = (els.length - (k + 1)) + 1 := by omega
  have OV : ∀ W, Calls Tryz.prog 17 #[.agg y.cells.toArray, .agg #[.int .i64 px, .int .i64 py]] W fun e w' => e = .returned (.bool (y.over px py)) ∧ Below W.heap.size W w' := fun W => Eg y.c y.g y.ax y.ay y.bx y.b_y y.cx y.cy y.r y.f y.s y.L y.n px py W
  obtain ⟨V, hV⟩ : ∃ V, y.over px py = V := ⟨_, rfl⟩
  rw [hV] at OV
  have HV := hide hV
  clear hV hely
  obtain ⟨SP_, capP, rfl, hcapP⟩ := Lj HO.out
  go_upto_region 5 with fail
  go_cut [56] (fun s wx => s = .bool V ∧ qQ w wx ((gr, [.int .i64 0, .int .i64 0, .bool false], 51) :: (gq, [.int .i64 px, .int .i64 py], 26) :: (gg, [.int .i64 k, .int .i64 y.n, .bool false], 51) :: (gp, [.slice (some ⟨b, o, none⟩) els.length capV, .int .i64 len], 42) :: B))
  case first =>
   refine qW [(gp, [.slice (some ⟨b, o, none⟩) els.length capV, .int .i64 len], 42), (gg, [.int .i64 k, .int .i64 y.n, .bool false], 51), (gq, [.int .i64 px, .int .i64 py], 26)] hM (by kernel_rfl) ?_; (clear hM; intro W hM)
   refine rD 0 ?_
   refine rD 1 ?_
   refine rD 2 ?_
   refine rD 3 ?_
   refine rE 4 ?_
   refine rE 5 ?_
   refine rE 6 ?_
   refine rE 7 ?_
   first | refine eP 8 (v := .pointer (some ⟨b, o + k * 13, none⟩)) hM ?_ (hv := by (intro W0; go_simp; first | done | omega | (intro h; exact absurd h (by omega)))) | refine eS 8 hM ?_
   try simp only [pS, pN, sA, sB, sC]
   refine RQ 9 hM (HYA.out) ?_
   try simp only [pS, pN, sA, sB, sC]
   refine rE 10 ?_
   first
    | refine Rw 11 hM ?_
    | (refine eC 11 (fun K' hK' => ?_)
       go_wp2_with (first | (go_at_call 17; (with_reducible refine cb hM (OV _) ?_); clear hM; intro W1 hM))
       refine rK hK' hM ?_; clear hK' K')
   refine rD 12 ?_
   refine qE (by kernel_rfl) ?_
   go_wp2_with fail
   all_goals
    go_meet
    exact ⟨rfl, hM⟩
  case rest =>
  clear hM
  obtain ⟨rfl, hM⟩ := hcut
  rcases V with _ | _
  · have HR : Hid (R = ((k : Int), y.n, false, ts)) := hide (by
     have h := G.out
     rw [hfu, AU HY.out HV.out] at h
     have e := HQ.out.2
     injection h with h1 h2
     injection h2 with h2 h3
     injection h3 with h3 h4
     rw [← h1] at e
     exact Prod.ext e (Prod.ext h2.symm (Prod.ext h3.symm h4.symm)))
    clear HQ G
    go_wp2_with (first | ((with_reducible refine lX ?_); refine mL ?_) | ((with_reducible refine sX ?_); refine mS ?_; clear hM; intro W hM))
    all_goals
     (refine' qR hM rfl rfl Tryz.isAgg51 Tryz.sizeOf51 rfl rfl ?_ ?_ ⟨.slice SP_ ts.length capP, B, ?_, ?_, ?_⟩; rotate_left 2; (· repeat constructor); (· rfl); (· rw [HR.out]; rfl); (· rw [HR.out]; exact HO.out); (· exact qz (qz (qz (qz hM)))))
  have LA := fun W h => LF b o els capV len k W l5 hk1 h
  rcases hl : EG els k with _ | _
  · rw [hl] at LA
    obtain ⟨z, hz, hzg⟩ : ∃ z, els[k + 1]? = some z ∧ z.g = false := by
     unfold EG at hl
     rcases hz : els[k + 1]? with _ | z
     · rw [hz] at hl; cases hl
     · rw [hz] at hl; exact ⟨z, rfl, hl⟩
    have hk2 := (List.getElem?_eq_some_iff.1 hz).1
    obtain ⟨bz_, oz_, e3, helz⟩ := hp.out (k + 1) z hz
    simp only [Option.some.injEq, Addr.mk.injEq, and_true] at e3
    obtain ⟨rfl, rfl⟩ := e3
    have HZA := hide (VK helz)
    have G1 := hide (show (if z.n = y.n then stepG els px py (els.length - (k + 1)) (k + 1) y.n ts else stepG els px py (els.length - (k + 1)) (k + 1) z.n (ts ++ [y.n])) = (R.1.toNat, R.2.1, R.2.2.1, R.2.2.2) from by
     have h := G.out
     rw [hfu, EH HY.out HV.out hz hzg] at h
     exact h)
    have HZ := hide hz
    clear hz hzg hl helz G
    by_cases hn : z.n = y.n
    · have t1 : (z.n != y.n) = false := by simpa using hn
      have G2 := hide (show stepG els px py (els.length - (k + 1)) (k + 1) z.n ts = (R.1.toNat, R.2.1, R.2.2.1, R.2.2.2) by have h := G1.out; rw [if_pos hn] at h; rw [hn]; exact h)
      have HN := hide hn
      clear G1 hn
      go_wp2_with (first | (go_at_call 18; (with_reducible refine cb hM (LA _ (hide (Lm hM hp.out))) ?_); clear hM; intro W1 hM) | ((with_reducible refine lX ?_); refine QE hM rfl (by first | exact rfl | (go_simp; done)) rfl (mT rfl) (HZA.out 11 _ rfl) ?_) | ((with_reducible refine lX ?_); refine mL ?_) | ((with_reducible refine sX ?_); refine mS ?_; clear hM; intro W hM))
      all_goals
       go_roundg (els.length - (k + 1))
       case rel => exact ⟨k + 1, z, ts, B, hk2, rfl, HZ, G2, by omega, HO, by rw [HN.out]; exact hM⟩
       case measure => omega
    · have t1 : (z.n != y.n) = true := by simpa using hn
      have G2 := hide (show stepG els px py (els.length - (k + 1)) (k + 1) z.n (ts ++ [y.n]) = (R.1.toNat, R.2.1, R.2.2.1, R.2.2.2) by have h := G1.out; rw [if_neg hn] at h; exact h)
      clear G1 hn
      go_wp2_with (first | (go_at_call 18; (with_reducible refine cb hM (LA _ (hide (Lm hM hp.out))) ?_); clear hM; intro W1 hM) | ((with_reducible refine lX ?_); refine QE hM rfl (by first | exact rfl | (go_simp; done)) rfl (mT rfl) (HZA.out 11 _ rfl) ?_) | ((with_reducible refine MI ?_); refine' fg hM rfl rfl ?_ Tryz.underlying54 Ln ?_ (by decide) (by decide) ?_; rotate_left 1; (· constructor); (· rfl); (clear hM; intro g W hM)) | ((with_reducible refine wV ?_); refine' fe hM rfl rfl rfl rfl HO.out ?_ Tryz.underlying54 Ln ?_ ?_ ?_ ?_ ?_ ?_ ?_; rotate_left 1; (· repeat constructor); rotate_left 2; (· repeat constructor); (· rfl); (· exact jC rfl); (· decide); (· omega); (· (unfold maxLen; omega)); (clear hM; intro ga capA BA W HOA hM; simp only [List.cons_append, List.nil_append] at hM)) | ((with_reducible refine lX ?_); refine mL ?_) | ((with_reducible refine sX ?_); refine mS ?_; clear hM; intro W hM))
      all_goals
       go_roundg (els.length - (k + 1))
       case rel => exact ⟨k + 1, z, ts ++ [y.n], BA, hk2, rfl, HZ, G2, by simp; omega, hide (by rw [List.length_append, List.map_append]; exact HOA), qz hM⟩
       case measure => omega
  · rw [hl] at LA
    have HR : Hid (R = ((k : Int), y.n, true, ts ++ [y.n])) := hide (by
     have h := G.out
     rw [hfu, Ep HY.out HV.out hl] at h
     have e := HQ.out.2
     injection h with h1 h2
     injection h2 with h2 h3
     injection h3 with h3 h4
     rw [← h1] at e
     exact Prod.ext e (Prod.ext h2.symm (Prod.ext h3.symm h4.symm)))
    clear HQ G hl
    go_wp2_with (first | (go_at_call 18; (with_reducible refine cb hM (LA _ (hide (Lm hM hp.out))) ?_); clear hM; intro W1 hM) | ((with_reducible refine MI ?_); refine' fg hM rfl rfl ?_ Tryz.underlying54 Ln ?_ (by decide) (by decide) ?_; rotate_left 1; (· constructor); (· rfl); (clear hM; intro g W hM)) | ((with_reducible refine wV ?_); refine' fe hM rfl rfl rfl rfl HO.out ?_ Tryz.underlying54 Ln ?_ ?_ ?_ ?_ ?_ ?_ ?_; rotate_left 1; (· repeat constructor); rotate_left 2; (· repeat constructor); (· rfl); (· exact jC rfl); (· decide); (· omega); (· (unfold maxLen; omega)); (clear hM; intro ga capA BA W HOA hM; simp only [List.cons_append, List.nil_append] at hM)) | ((with_reducible refine lX ?_); refine mL ?_) | ((with_reducible refine sX ?_); refine mS ?_; clear hM; intro W hM))
    all_goals
     (refine' qR hM rfl rfl Tryz.isAgg51 Tryz.sizeOf51 rfl rfl ?_ ?_ ⟨.slice (some ⟨ga, 0, none⟩) (ts.length + 1) capA, BA, ?_, ?_, ?_⟩; rotate_left 2; (· repeat constructor); (· rfl); (· rw [HR.out]; rfl); (· rw [HR.out]; exact (by rw [List.length_append, List.map_append]; exact HOA)); (· exact qz (qz (qz (qz (qz hM))))))
end Go.Proofs.YteanfgobpjdmnaaGreatDoor
