/-
  path.Build on the example, by its general contract.
-/
import Derived.Test.YtdlognnifmihnaaGreatDoorMPathP
import Derived.Test.YtdlognnifmihnaaGreatDoorMDrB
import Derived.Test.YtdlognnifmihnaaGreatDoorMStoreN
import Derived.Test.YtdlognnifmihnaaGreatDoorMPatA
namespace Go.Proofs.YtdlognnifmihnaaGreatDoor
open Go.RowKit
set_option linter.unusedVariables false
def Fv : List Value := [.bool false, .int .u8 1, .string ⟨#[65, 47, 48, 48]⟩, .string ⟨#[]⟩, .int .u8 0, .bool false, .int .i64 0, .int .i64 0, .int .i64 0, .int .i64 0, .int .i64 (-200000), .int .i64 6000000, .int .i64 0, .int .i64 0, .int .i64 0, .int .i64 (-30000), .int .i64 0, .int .i64 0, .int .u8 2, .string ⟨#[]⟩, .bool false, .int .u8 2, .string ⟨#[66, 47, 48, 48]⟩, .string ⟨#[]⟩, .int .u8 0, .bool false, .int .i64 0, .int .i64 0, .int .i64 0, .int .i64 0, .int .i64 (-200000), .int .i64 6000000, .int .i64 0, .int .i64 0, .int .i64 0, .int .i64 0, .int .i64 0, .int .i64 0, .int .u8 2, .string ⟨#[]⟩, .bool false, .int .u8 2, .string ⟨#[67, 47, 48, 48]⟩, .string ⟨#[]⟩, .int .u8 0, .bool false, .int .i64 0, .int .i64 0, .int .i64 0, .int .i64 0, .int .i64 (-200000), .int .i64 6000000, .int .i64 0, .int .i64 0, .int .i64 30000, .int .i64 0, .int .i64 0, .int .i64 0, .int .u8 2, .string ⟨#[]⟩]
theorem Bi {w W : World} {V : Value} {els : List El} {B : List zz} {m : Nat} (hM : qQ w W B) (hO : bG V els B m) : ∃ S cap, V = .slice S els.length cap ∧ yI W S els := by
 by_cases h0 : 0 < els.length
 · obtain ⟨g, cap, cur, rfl, rfl, hcur⟩ := uY hO h0
   refine ⟨_, _, rfl, fun k x hk => ⟨g, 0, rfl, ?_⟩⟩
   have hr := Qb hcur rfl hk
   have hg := hM.rows g cur _ (.head _)
   have key : ∀ (i : Nat) (v : Value), x.cells[i]? = some v → W.cell? ⟨g, k * 13 + i, none⟩ = some v := fun i v hv => by
    rw [cell_of_row W g _ cur.toArray _ (0, 0) hg.2]
    have hi : i < 13 := (List.getElem?_eq_some_iff.1 hv).1
    rw [← hr, List.getElem?_take, if_pos hi, List.getElem?_drop] at hv
    simpa using hv
   rw [Nat.zero_add]
   exact ⟨key 0 _ rfl, key 1 _ rfl, key 2 _ rfl, key 3 _ rfl, key 4 _ rfl, key 5 _ rfl, key 6 _ rfl, key 7 _ rfl, key 8 _ rfl, key 9 _ rfl, key 10 _ rfl, key 11 _ rfl, key 12 _ rfl⟩
 · have : els = [] := List.eq_nil_of_length_eq_zero (by omega)
   subst this
   obtain ⟨S, cap, rfl⟩ := ut hO.1
   exact ⟨S, cap, rfl, fun k x hk => by simp at hk⟩
theorem Cn : pK UR := by repeat' (first | (unfold qH; decide) | decide | constructor)
theorem Co : pK QV := by repeat' (first | (unfold qH; decide) | decide | constructor)
theorem Cp : pK Js := by repeat' (first | (unfold qH; decide) | decide | constructor)
theorem si (E : Nat) (w : World) (hu : Hid (jq w)) (hE : Hid (rowAt w E Fv)) :
 Calls Tryz.prog 7 #[.agg #[.string ⟨#[]⟩, .string ⟨#[]⟩, .slice (some ⟨E, 0, none⟩) 3 3, .int .i64 (-1)], .agg #[.int .i64 0, .int .i64 0], .int .i64 0, .agg #[.int .i64 251, .int .i64 3000, .int .i64 0, .int .i64 30000]] w fun e w' => ∃ gv cap, e = .returned (.tuple #[.agg #[.slice (some ⟨gv, 0, none⟩) 4 cap, .int .i64 55904], .int .i64 0, .int .i64 0]) ∧ Hid (yI w' (some ⟨gv, 0, none⟩) kX) ∧ Below w.heap.size w w' := by
 have hat : ∀ (k : Nat) (x : En), Kv[k]? = some x → uy w E (k * 20) x ∧ pK x := by
  intro k x hk
  have hk3 : k < 3 := (List.getElem?_eq_some_iff.1 hk).1
  have key : ∀ (y : En) (o : Nat), (Fv.drop o).take 20 = y.cells → uy w E o y := fun y o hy j v hj => by
   have hj2 : j < 20 := (List.getElem?_eq_some_iff.1 hj).1
   rw [← hy, List.getElem?_take, if_pos hj2, List.getElem?_drop] at hj
   exact hE.out _ _ hj
  obtain rfl | rfl | rfl : k = 0 ∨ k = 1 ∨ k = 2 := by omega
  · injection hk with hk
    subst hk
    exact ⟨key _ _ rfl, Cn⟩
  · injection hk with hk
    subst hk
    exact ⟨key _ _ rfl, Co⟩
  · injection hk with hk
    subst hk
    exact ⟨key _ _ rfl, Cp⟩
 refine (Qp ⟨#[]⟩ ⟨#[]⟩ (some ⟨E, 0, none⟩) Kv 3 (-1) 0 0 0 251 3000 0 30000 w (by decide) (by decide) (hide fun k x hk => ⟨E, 0, rfl, by rw [Nat.zero_add]; exact (hat k x hk).1⟩) (hide fun k x hk => (hat k x hk).2) (by unfold qH; decide) (by unfold qH; decide) hu).mono ?_
 rintro e w' ⟨V, len, B, h1, h2, h3, h4⟩
 rw [rA] at h1 h2 h3
 dsimp only at h1 h2 h3
 rw [NF] at h3
 subst h3
 obtain ⟨S, cap, rfl, hp⟩ := Bi h4 h2
 obtain ⟨b, o, rfl, _⟩ := hp 0 _ rfl
 cases h2.1 with
 | row a1 a2 a3 a4 a5 => exact ⟨_, cap, h1, hide hp, h4.below⟩
set_option maxRecDepth 100000
set_option maxHeartbeats 16000000
set_option linter.unusedSimpArgs false
theorem aP (S : Option Addr) (l : List El) (cap : Nat) (len t : Int) (w : World) (h2 : l.length ≤ 9223372036854775807) (hp : Hid (yI w S l)) (E : Int) (hc : vX l len = E) (h : ¬ E = 0) :
 Calls Tryz.prog 25 #[.agg #[.slice S l.length cap, .int .i64 len], .int .i64 t] w fun e w' => e = .returned (.tuple #[.int .i64 0, .int .i64 E]) ∧ Below w.heap.size w w' := by
 have CK := fun W hb => kQ S l cap len W h2 (hide (jf hb hp.out))
 rw [hc] at CK
 clear hc
 have T : (E != 0) = true := bne_iff_ne.2 h
 go_enter Tryz.func25, Tryz.ntmps25
 go_wp2_with fail
 refine (CK _ (by (repeat (with_reducible (first | assumption | exact Below.refl _ _ | refine Below.drew ?_ | refine below_drewN ?_ _ | refine qj ?_ (by simp; try omega) _ | refine qe ?_ (Nat.le_refl _) _ | refine qi (by assumption) ?_))))).mono ?_
 rintro e w1 ⟨rfl, hb1⟩
 obtain ⟨f1, f2⟩ : w1.cell? ⟨w.heap.size, 0, none⟩ = some (.slice S l.length cap) ∧ w1.cell? ⟨w.heap.size, 1, none⟩ = some (.int .i64 len) := by
  refine ⟨?_, ?_⟩ <;> (refine qa hb1 ?_; repeat (first | (with_reducible assumption) | ((with_reducible refine qK ?_ ?_ _); (· first | (simp; done) | (simp; omega) | omega)) | ((with_reducible refine qG ?_ ?_); (· (simp; done)); (· rfl)) | (with_reducible refine qt ?_ _) | (with_reducible refine qC ?_) | (with_reducible refine qu ?_ _) | (with_reducible refine qa (by assumption) ?_)))
 have zf1 : w.heap.size < w1.heap.size := World.block_lt_of_cell? _ _ f1
 go_wp2_with fail
 all_goals
  exact bodyPost_ret (v := .tuple #[.int .i64 0, .int .i64 E]) (by simp [results, Tryz.results25, go_sem, *]) rfl ⟨rfl, by (repeat (with_reducible (first | assumption | exact Below.refl _ _ | refine Below.drew ?_ | refine below_drewN ?_ _ | refine qj ?_ (by simp; try omega) _ | refine qe ?_ (Nat.le_refl _) _ | refine qi (by assumption) ?_)))⟩
theorem Pe (S : Option Addr) (l : List El) (cap : Nat) (len t : Int) (w : World) (h2 : l.length ≤ 9223372036854775807) (hp : Hid (yI w S l)) (hc : vX l len = 0) (R : Int) (hR : R = Qc l t) :
 Calls Tryz.prog 25 #[.agg #[.slice S l.length cap, .int .i64 len], .int .i64 t] w fun e w' => e = .returned (.tuple #[.int .i64 R, .int .i64 0]) ∧ Below w.heap.size w w' := by
 have CK := fun W hb => kQ S l cap len W h2 (hide (jf hb hp.out))
 rw [hc] at CK
 have l5 := (JR hc).short
 have eL := hide (fun j y (hy : l[j]? = some y) => BO hc hy)
 have HR := hide hR
 clear hc hR
 go_enter Tryz.func25, Tryz.ntmps25
 go_wp2_with fail
 refine (CK _ (by (repeat (with_reducible (first | assumption | exact Below.refl _ _ | refine Below.drew ?_ | refine below_drewN ?_ _ | refine qj ?_ (by simp; try omega) _ | refine qe ?_ (Nat.le_refl _) _ | refine qi (by assumption) ?_))))).mono ?_
 rintro e w1 ⟨rfl, hb1⟩
 obtain ⟨f1, f2⟩ : w1.cell? ⟨w.heap.size, 0, none⟩ = some (.slice S l.length cap) ∧ w1.cell? ⟨w.heap.size, 1, none⟩ = some (.int .i64 len) := by
  refine ⟨?_, ?_⟩ <;> (refine qa hb1 ?_; repeat (first | (with_reducible assumption) | ((with_reducible refine qK ?_ ?_ _); (· first | (simp; done) | (simp; omega) | omega)) | ((with_reducible refine qG ?_ ?_); (· (simp; done)); (· rfl)) | (with_reducible refine qt ?_ _) | (with_reducible refine qC ?_) | (with_reducible refine qu ?_ _) | (with_reducible refine qa (by assumption) ?_)))
 have zf1 : w.heap.size < w1.heap.size := World.block_lt_of_cell? _ _ f1
 go_wp2_with fail
 go_loopw [7, 18] (fun a i W => ∃ (k : Nat) (sm : Int), k ≤ l.length ∧ a = .int .i64 sm ∧ i = .int .i64 (k : Int) ∧ Hid (sm = Qc (l.take k) t) ∧ 0 ≤ sm ∧ sm ≤ k * 60000000 ∧ W.cell? ⟨w.heap.size, 0, none⟩ = some (.slice S l.length cap) ∧ W.cell? ⟨w.heap.size, 1, none⟩ = some (.int .i64 len) ∧ Below w.heap.size w W) (fun a i _ => l.length - (intOf i).toNat)
 case atStart => exact ⟨0, 0, by omega, rfl, rfl, hide rfl, by omega, by omega, by (repeat (first | (with_reducible assumption) | ((with_reducible refine qK ?_ ?_ _); (· first | (simp; done) | (simp; omega) | omega)) | ((with_reducible refine qG ?_ ?_); (· (simp; done)); (· rfl)) | (with_reducible refine qt ?_ _) | (with_reducible refine qC ?_) | (with_reducible refine qu ?_ _) | (with_reducible refine qa (by assumption) ?_))), by (repeat (first | (with_reducible assumption) | ((with_reducible refine qK ?_ ?_ _); (· first | (simp; done) | (simp; omega) | omega)) | ((with_reducible refine qG ?_ ?_); (· (simp; done)); (· rfl)) | (with_reducible refine qt ?_ _) | (with_reducible refine qC ?_) | (with_reducible refine qu ?_ _) | (with_reducible refine qa (by assumption) ?_))), by (repeat (with_reducible (first | assumption | exact Below.refl _ _ | refine Below.drew ?_ | refine below_drewN ?_ _ | refine qj ?_ (by simp; try omega) _ | refine qe ?_ (Nat.le_refl _) _ | refine qi (by assumption) ?_)))⟩
 case round =>
  obtain ⟨k, sm, hk, rfl, rfl, G, s0, s1, p0, p1, K⟩ := hrel
  have zp : w.heap.size < wr.heap.size := World.block_lt_of_cell? _ _ p0
  by_cases hlt : k < l.length
  · obtain ⟨b, o, rfl⟩ := Yb hp.out (by omega)
    obtain ⟨x, hx⟩ : ∃ x, l[k]? = some x := ⟨_, List.getElem?_eq_getElem hlt⟩
    have hat := ug (jf K hp.out) hx
    have xL := eL.out k x hx
    have G2 := hide (pd hx t)
    clear hx
    have c0 : wr.cell? ⟨b, o + k * 13, none⟩ = some (.bool x.c) := hat.1
    have c1 : wr.cell? ⟨b, o + k * 13 + 1, none⟩ = some (.int .i64 x.ax) := hat.2.1
    have c2 : wr.cell? ⟨b, o + k * 13 + 2, none⟩ = some (.int .i64 x.ay) := hat.2.2.1
    have c3 : wr.cell? ⟨b, o + k * 13 + 3, none⟩ = some (.int .i64 x.bx) := hat.2.2.2.1
    have c4 : wr.cell? ⟨b, o + k * 13 + 4, none⟩ = some (.int .i64 x.b_y) := hat.2.2.2.2.1
    have c5 : wr.cell? ⟨b, o + k * 13 + 5, none⟩ = some (.int .i64 x.cx) := hat.2.2.2.2.2.1
    have c6 : wr.cell? ⟨b, o + k * 13 + 6, none⟩ = some (.int .i64 x.cy) := hat.2.2.2.2.2.2.1
    have c7 : wr.cell? ⟨b, o + k * 13 + 7, none⟩ = some (.int .i64 x.r) := hat.2.2.2.2.2.2.2.1
    have c8 : wr.cell? ⟨b, o + k * 13 + 8, none⟩ = some (.int .i64 x.f) := hat.2.2.2.2.2.2.2.2.1
    have c9 : wr.cell? ⟨b, o + k * 13 + 9, none⟩ = some (.int .i64 x.s) := hat.2.2.2.2.2.2.2.2.2.1
    have c10 : wr.cell? ⟨b, o + k * 13 + 10, none⟩ = some (.int .i64 x.L) := hat.2.2.2.2.2.2.2.2.2.2.1
    have c11 : wr.cell? ⟨b, o + k * 13 + 11, none⟩ = some (.int .i64 x.n) := hat.2.2.2.2.2.2.2.2.2.2.2.1
    have c12 : wr.cell? ⟨b, o + k * 13 + 12, none⟩ = some (.bool x.g) := hat.2.2.2.2.2.2.2.2.2.2.2.2
    clear hat
    have zc : b < wr.heap.size := World.block_lt_of_cell? _ _ c0
    by_cases hn : x.n ≤ t
    · skip
      have G3 : Hid (sm + x.L = Qc (l.take (k + 1)) t) := hide (by rw [G2.out, if_pos hn, G.out])
      clear G G2
      go_wp2_with fail
      go_roundw
      case rel => exact ⟨k + 1, sm + x.L, by omega, by go_num, by go_num, G3, by omega, by omega, by (repeat (first | (with_reducible assumption) | ((with_reducible refine qK ?_ ?_ _); (· first | (simp; done) | (simp; omega) | omega)) | ((with_reducible refine qG ?_ ?_); (· (simp; done)); (· rfl)) | (with_reducible refine qt ?_ _) | (with_reducible refine qC ?_) | (with_reducible refine qu ?_ _) | (with_reducible refine qa (by assumption) ?_))), by (repeat (first | (with_reducible assumption) | ((with_reducible refine qK ?_ ?_ _); (· first | (simp; done) | (simp; omega) | omega)) | ((with_reducible refine qG ?_ ?_); (· (simp; done)); (· rfl)) | (with_reducible refine qt ?_ _) | (with_reducible refine qC ?_) | (with_reducible refine qu ?_ _) | (with_reducible refine qa (by assumption) ?_))), by (repeat (with_reducible (first | assumption | exact Below.refl _ _ | refine Below.drew ?_ | refine below_drewN ?_ _ | refine qj ?_ (by simp; try omega) _ | refine qe ?_ (Nat.le_refl _) _ | refine qi (by assumption) ?_)))⟩
      case measure => simp [intOf]; omega
    · skip
      have G3 : Hid (sm = Qc (l.take (k + 1)) t) := hide (by rw [G2.out, if_neg hn, G.out]; omega)
      have hn2 : t < x.n := by omega
      clear G G2
      go_wp2_with fail
      go_roundw
      case rel => exact ⟨k + 1, sm, by omega, by go_num, by go_num, G3, by omega, by omega, by (repeat (first | (with_reducible assumption) | ((with_reducible refine qK ?_ ?_ _); (· first | (simp; done) | (simp; omega) | omega)) | ((with_reducible refine qG ?_ ?_); (· (simp; done)); (· rfl)) | (with_reducible refine qt ?_ _) | (with_reducible refine qC ?_) | (with_reducible refine qu ?_ _) | (with_reducible refine qa (by assumption) ?_))), by (repeat (first | (with_reducible assumption) | ((with_reducible refine qK ?_ ?_ _); (· first | (simp; done) | (simp; omega) | omega)) | ((with_reducible refine qG ?_ ?_); (· (simp; done)); (· rfl)) | (with_reducible refine qt ?_ _) | (with_reducible refine qC ?_) | (with_reducible refine qu ?_ _) | (with_reducible refine qa (by assumption) ?_))), by (repeat (with_reducible (first | assumption | exact Below.refl _ _ | refine Below.drew ?_ | refine below_drewN ?_ _ | refine qj ?_ (by simp; try omega) _ | refine qe ?_ (Nat.le_refl _) _ | refine qi (by assumption) ?_)))⟩
      case measure => simp [intOf]; omega
  · obtain rfl : k = l.length := by omega
    obtain rfl : R = sm := by rw [HR.out, G.out, List.take_length]
    clear G
    go_wp2_with fail
    all_goals
     exact bodyPost_ret (v := .tuple #[.int .i64 R, .int .i64 0]) (by simp [results, Tryz.results25, go_sem, *]) rfl ⟨rfl, by (repeat (with_reducible (first | assumption | exact Below.refl _ _ | refine Below.drew ?_ | refine below_drewN ?_ _ | refine qj ?_ (by simp; try omega) _ | refine qe ?_ (Nat.le_refl _) _ | refine qi (by assumption) ?_)))⟩
theorem aQ (S : Option Addr) (l : List El) (cap : Nat) (len t : Int) (w : World) (h2 : l.length ≤ 9223372036854775807) (hp : Hid (yI w S l)) (R : Int × Int) (hR : R = mW l len t) :
 Calls Tryz.prog 25 #[.agg #[.slice S l.length cap, .int .i64 len], .int .i64 t] w fun e w' => e = .returned (.tuple #[.int .i64 R.1, .int .i64 R.2]) ∧ Below w.heap.size w w' := by
 unfold mW at hR
 by_cases hc : vX l len = 0
 · rw [if_neg (by simp [hc])] at hR
   subst hR
   exact Pe S l cap len t w h2 hp hc _ rfl
 · rw [if_pos hc] at hR
   subst hR
   exact aP S l cap len t w h2 hp _ rfl hc
set_option maxRecDepth 100000 in
set_option maxHeartbeats 16000000 in
theorem bU (w : World) (hu : Hid (jq w)) : Calls Tryz.prog 11 #[] w fun e w' => e = .returned (.bool true) ∧ Below w.heap.size w w' := by
 go_enter Tryz.func11, Tryz.ntmps11
 go_wp2_with fail
 refine (nF 1 ⟨#[65, 47, 48, 48]⟩ 0 (-30000) _).mono ?_
 rintro e w1 ⟨rfl, hb1⟩
 go_wp2_with fail
 refine (nF 2 ⟨#[66, 47, 48, 48]⟩ 0 0 _).mono ?_
 rintro e w2 ⟨rfl, hb2⟩
 go_wp2_with fail
 refine (nF 2 ⟨#[67, 47, 48, 48]⟩ 30000 0 _).mono ?_
 rintro e w3 ⟨rfl, hb3⟩
 go_wp2_with fail
 have hrow : Hid (rowAt (w3.alloc (.cells #[.bool false, .int .u8 1, .string ⟨#[65, 47, 48, 48]⟩, .string ⟨#[]⟩, .int .u8 0, .bool false, .int .i64 0, .int .i64 0, .int .i64 0, .int .i64 0, .int .i64 (-200000), .int .i64 6000000, .int .i64 0, .int .i64 0, .int .i64 0, .int .i64 (-30000), .int .i64 0, .int .i64 0, .int .u8 2, .string ⟨#[]⟩, .bool false, .int .u8 2, .string ⟨#[66, 47, 48, 48]⟩, .string ⟨#[]⟩, .int .u8 0, .bool false, .int .i64 0, .int .i64 0, .int .i64 0, .int .i64 0, .int .i64 (-200000), .int .i64 6000000, .int .i64 0, .int .i64 0, .int .i64 0, .int .i64 0, .int .i64 0, .int .i64 0, .int .u8 2, .string ⟨#[]⟩, .bool false, .int .u8 2, .string ⟨#[67, 47, 48, 48]⟩, .string ⟨#[]⟩, .int .u8 0, .bool false, .int .i64 0, .int .i64 0, .int .i64 0, .int .i64 0, .int .i64 (-200000), .int .i64 6000000, .int .i64 0, .int .i64 0, .int .i64 30000, .int .i64 0, .int .i64 0, .int .i64 0, .int .u8 2, .string ⟨#[]⟩] 52)) w3.heap.size Fv) := hide (fun j v hj => qG rfl (by simpa [Fv] using hj))
 have hB3 : Below w.heap.size w (w3.alloc (.cells #[.bool false, .int .u8 1, .string ⟨#[65, 47, 48, 48]⟩, .string ⟨#[]⟩, .int .u8 0, .bool false, .int .i64 0, .int .i64 0, .int .i64 0, .int .i64 0, .int .i64 (-200000), .int .i64 6000000, .int .i64 0, .int .i64 0, .int .i64 0, .int .i64 (-30000), .int .i64 0, .int .i64 0, .int .u8 2, .string ⟨#[]⟩, .bool false, .int .u8 2, .string ⟨#[66, 47, 48, 48]⟩, .string ⟨#[]⟩, .int .u8 0, .bool false, .int .i64 0, .int .i64 0, .int .i64 0, .int .i64 0, .int .i64 (-200000), .int .i64 6000000, .int .i64 0, .int .i64 0, .int .i64 0, .int .i64 0, .int .i64 0, .int .i64 0, .int .u8 2, .string ⟨#[]⟩, .bool false, .int .u8 2, .string ⟨#[67, 47, 48, 48]⟩, .string ⟨#[]⟩, .int .u8 0, .bool false, .int .i64 0, .int .i64 0, .int .i64 0, .int .i64 0, .int .i64 (-200000), .int .i64 6000000, .int .i64 0, .int .i64 0, .int .i64 30000, .int .i64 0, .int .i64 0, .int .i64 0, .int .u8 2, .string ⟨#[]⟩] 52)) := by (repeat (with_reducible (first | assumption | exact Below.refl _ _ | refine Below.drew ?_ | refine below_drewN ?_ _ | refine qj ?_ (by simp; try omega) _ | refine qe ?_ (Nat.le_refl _) _ | refine qi (by assumption) ?_)))
 have hu3 := hide (ZL hB3 hu.out)
 refine (si w3.heap.size _ (hide (ZL (show Below w.heap.size w _ by (repeat (with_reducible (first | assumption | exact Below.refl _ _ | refine Below.drew ?_ | refine below_drewN ?_ _ | refine qj ?_ (by simp; try omega) _ | refine qe ?_ (Nat.le_refl _) _ | refine qi (by assumption) ?_)))) hu.out)) (hide (Tz ?_ hrow.out))).mono ?_
 · (repeat (with_reducible (first | assumption | exact Below.refl _ _ | refine Below.drew ?_ | refine below_drewN ?_ _ | refine qj ?_ (by simp; try omega) _ | refine qe ?_ (Nat.le_refl _) _ | refine qi (by assumption) ?_)))
 rintro e w5 ⟨gv, cap, rfl, hp, hb5⟩
 go_wp2_with fail
 have CK := fun W h => kQ (some ⟨gv, 0, none⟩) kX cap 55904 W (by decide) h
 rw [YV] at CK
 refine (CK _ (hide (jf (show Below w5.heap.size w5 _ by (repeat (with_reducible (first | assumption | exact Below.refl _ _ | refine Below.drew ?_ | refine below_drewN ?_ _ | refine qj ?_ (by simp; try omega) _ | refine qe ?_ (Nat.le_refl _) _ | refine qi (by assumption) ?_)))) hp.out))).mono ?_
 rintro e w6 ⟨rfl, hb6⟩
 obtain ⟨f101, f102⟩ : w6.cell? ⟨w5.heap.size, 0, none⟩ = some (.slice (some ⟨gv, 0, none⟩) 4 cap) ∧ w6.cell? ⟨w5.heap.size, 1, none⟩ = some (.int .i64 55904) := by
  refine ⟨?_, ?_⟩ <;> (refine qa hb6 ?_; repeat (first | (with_reducible assumption) | ((with_reducible refine qK ?_ ?_ _); (· first | (simp; done) | (simp; omega) | omega)) | ((with_reducible refine qG ?_ ?_); (· (simp; done)); (· rfl)) | (with_reducible refine qt ?_ _) | (with_reducible refine qC ?_) | (with_reducible refine qu ?_ _) | (with_reducible refine qa (by assumption) ?_)))
 have zf101 : w5.heap.size < w6.heap.size := World.block_lt_of_cell? _ _ f101
 have hp6 := hide (jf (show Below w5.heap.size w5 w6 by (repeat (with_reducible (first | assumption | exact Below.refl _ _ | refine Below.drew ?_ | refine below_drewN ?_ _ | refine qj ?_ (by simp; try omega) _ | refine qe ?_ (Nat.le_refl _) _ | refine qi (by assumption) ?_)))) hp.out)
 have hw6 : Below w.heap.size w w6 := by (repeat (with_reducible (first | assumption | exact Below.refl _ _ | refine Below.drew ?_ | refine below_drewN ?_ _ | refine qj ?_ (by simp; try omega) _ | refine qe ?_ (Nat.le_refl _) _ | refine qi (by assumption) ?_)))
 have at0 : KC w6 gv (0 + 0 * 13) _ := ug hp6.out (k := 0) rfl
 have at1 : KC w6 gv (0 + 1 * 13) _ := ug hp6.out (k := 1) rfl
 have at2 : KC w6 gv (0 + 2 * 13) _ := ug hp6.out (k := 2) rfl
 have at3 : KC w6 gv (0 + 3 * 13) _ := ug hp6.out (k := 3) rfl
 have e0 : w6.cell? ⟨gv, 0, none⟩ = some (.bool false) := at0.1
 have e1 : w6.cell? ⟨gv, 1, none⟩ = some (.int .i64 0) := at0.2.1
 have e2 : w6.cell? ⟨gv, 2, none⟩ = some (.int .i64 (-30000)) := at0.2.2.1
 have e3 : w6.cell? ⟨gv, 3, none⟩ = some (.int .i64 0) := at0.2.2.2.1
 have e4 : w6.cell? ⟨gv, 4, none⟩ = some (.int .i64 (-9541)) := at0.2.2.2.2.1
 have e5 : w6.cell? ⟨gv, 5, none⟩ = some (.int .i64 0) := at0.2.2.2.2.2.1
 have e6 : w6.cell? ⟨gv, 6, none⟩ = some (.int .i64 0) := at0.2.2.2.2.2.2.1
 have e7 : w6.cell? ⟨gv, 7, none⟩ = some (.int .i64 0) := at0.2.2.2.2.2.2.2.1
 have e8 : w6.cell? ⟨gv, 8, none⟩ = some (.int .i64 0) := at0.2.2.2.2.2.2.2.2.1
 have e9 : w6.cell? ⟨gv, 9, none⟩ = some (.int .i64 0) := at0.2.2.2.2.2.2.2.2.2.1
 have e10 : w6.cell? ⟨gv, 10, none⟩ = some (.int .i64 20459) := at0.2.2.2.2.2.2.2.2.2.2.1
 have e11 : w6.cell? ⟨gv, 11, none⟩ = some (.int .i64 1) := at0.2.2.2.2.2.2.2.2.2.2.2.1
 have e12 : w6.cell? ⟨gv, 12, none⟩ = some (.bool false) := at0.2.2.2.2.2.2.2.2.2.2.2.2
 have e13 : w6.cell? ⟨gv, 13, none⟩ = some (.bool true) := at1.1
 have e23 : w6.cell? ⟨gv, 23, none⟩ = some (.int .i64 7493) := at1.2.2.2.2.2.2.2.2.2.2.1
 have e26 : w6.cell? ⟨gv, 26, none⟩ = some (.bool true) := at2.1
 have e39 : w6.cell? ⟨gv, 39, none⟩ = some (.bool false) := at3.1
 have e40 : w6.cell? ⟨gv, 40, none⟩ = some (.int .i64 9541) := at3.2.1
 have e41 : w6.cell? ⟨gv, 41, none⟩ = some (.int .i64 0) := at3.2.2.1
 have e42 : w6.cell? ⟨gv, 42, none⟩ = some (.int .i64 30000) := at3.2.2.2.1
 have e43 : w6.cell? ⟨gv, 43, none⟩ = some (.int .i64 0) := at3.2.2.2.2.1
 have e44 : w6.cell? ⟨gv, 44, none⟩ = some (.int .i64 0) := at3.2.2.2.2.2.1
 have e45 : w6.cell? ⟨gv, 45, none⟩ = some (.int .i64 0) := at3.2.2.2.2.2.2.1
 have e46 : w6.cell? ⟨gv, 46, none⟩ = some (.int .i64 0) := at3.2.2.2.2.2.2.2.1
 have e47 : w6.cell? ⟨gv, 47, none⟩ = some (.int .i64 0) := at3.2.2.2.2.2.2.2.2.1
 have e48 : w6.cell? ⟨gv, 48, none⟩ = some (.int .i64 0) := at3.2.2.2.2.2.2.2.2.2.1
 have e49 : w6.cell? ⟨gv, 49, none⟩ = some (.int .i64 20459) := at3.2.2.2.2.2.2.2.2.2.2.1
 have e50 : w6.cell? ⟨gv, 50, none⟩ = some (.int .i64 2) := at3.2.2.2.2.2.2.2.2.2.2.2.1
 have e51 : w6.cell? ⟨gv, 51, none⟩ = some (.bool false) := at3.2.2.2.2.2.2.2.2.2.2.2.2
 clear at0 at1 at2 at3
 have zgv : gv < w6.heap.size := World.block_lt_of_cell? _ _ e0
 go_wp2_with fail
 go_cut [5, 6] (fun sA sB wx => ∃ (a b : Nat) (wz : World), sA = .pointer (some ⟨a, 0, none⟩) ∧ sB = .pointer (some ⟨b, 0, none⟩) ∧ wz = wx ∧ w6.heap.size ≤ a ∧ w6.heap.size ≤ b ∧ wz.cell? ⟨a, 0, none⟩ = some (.bool false) ∧ wz.cell? ⟨a, 1, none⟩ = some (.int .i64 0) ∧ wz.cell? ⟨a, 2, none⟩ = some (.int .i64 (-30000)) ∧ wz.cell? ⟨a, 10, none⟩ = some (.int .i64 20459) ∧ wz.cell? ⟨b, 0, none⟩ = some (.bool false) ∧ wz.cell? ⟨b, 3, none⟩ = some (.int .i64 30000) ∧ wz.cell? ⟨b, 4, none⟩ = some (.int .i64 0) ∧ wz.cell? ⟨b, 10, none⟩ = some (.int .i64 20459) ∧ Below w6.heap.size w6 wz)
 case first =>
  go_region
  all_goals
   go_wp2_with fail
   go_meet
   refine ⟨_, _, _, rfl, rfl, rfl, ?_, ?_, ?_, ?_, ?_, ?_, ?_, ?_, ?_, ?_, ?_⟩
   · first | omega | (simp; done) | (simp; omega)
   · first | omega | (simp; done) | (simp; omega)
   · first | (simp [go_sem]; done) | (simp [go_sem, *]; done) | (repeat (first | (with_reducible assumption) | ((with_reducible refine qK ?_ ?_ _); (· first | (simp; done) | (simp; omega) | omega)) | ((with_reducible refine qG ?_ ?_); (· (simp; done)); (· rfl)) | (with_reducible refine qt ?_ _) | (with_reducible refine qC ?_) | (with_reducible refine qu ?_ _) | (with_reducible refine qa (by assumption) ?_)))
   · first | (simp [go_sem]; done) | (simp [go_sem, *]; done) | (repeat (first | (with_reducible assumption) | ((with_reducible refine qK ?_ ?_ _); (· first | (simp; done) | (simp; omega) | omega)) | ((with_reducible refine qG ?_ ?_); (· (simp; done)); (· rfl)) | (with_reducible refine qt ?_ _) | (with_reducible refine qC ?_) | (with_reducible refine qu ?_ _) | (with_reducible refine qa (by assumption) ?_)))
   · first | (simp [go_sem]; done) | (simp [go_sem, *]; done) | (repeat (first | (with_reducible assumption) | ((with_reducible refine qK ?_ ?_ _); (· first | (simp; done) | (simp; omega) | omega)) | ((with_reducible refine qG ?_ ?_); (· (simp; done)); (· rfl)) | (with_reducible refine qt ?_ _) | (with_reducible refine qC ?_) | (with_reducible refine qu ?_ _) | (with_reducible refine qa (by assumption) ?_)))
   · first | (simp [go_sem]; done) | (simp [go_sem, *]; done) | (repeat (first | (with_reducible assumption) | ((with_reducible refine qK ?_ ?_ _); (· first | (simp; done) | (simp; omega) | omega)) | ((with_reducible refine qG ?_ ?_); (· (simp; done)); (· rfl)) | (with_reducible refine qt ?_ _) | (with_reducible refine qC ?_) | (with_reducible refine qu ?_ _) | (with_reducible refine qa (by assumption) ?_)))
   · first | (simp [go_sem]; done) | (simp [go_sem, *]; done) | (repeat (first | (with_reducible assumption) | ((with_reducible refine qK ?_ ?_ _); (· first | (simp; done) | (simp; omega) | omega)) | ((with_reducible refine qG ?_ ?_); (· (simp; done)); (· rfl)) | (with_reducible refine qt ?_ _) | (with_reducible refine qC ?_) | (with_reducible refine qu ?_ _) | (with_reducible refine qa (by assumption) ?_)))
   · first | (simp [go_sem]; done) | (simp [go_sem, *]; done) | (repeat (first | (with_reducible assumption) | ((with_reducible refine qK ?_ ?_ _); (· first | (simp; done) | (simp; omega) | omega)) | ((with_reducible refine qG ?_ ?_); (· (simp; done)); (· rfl)) | (with_reducible refine qt ?_ _) | (with_reducible refine qC ?_) | (with_reducible refine qu ?_ _) | (with_reducible refine qa (by assumption) ?_)))
   · first | (simp [go_sem]; done) | (simp [go_sem, *]; done) | (repeat (first | (with_reducible assumption) | ((with_reducible refine qK ?_ ?_ _); (· first | (simp; done) | (simp; omega) | omega)) | ((with_reducible refine qG ?_ ?_); (· (simp; done)); (· rfl)) | (with_reducible refine qt ?_ _) | (with_reducible refine qC ?_) | (with_reducible refine qu ?_ _) | (with_reducible refine qa (by assumption) ?_)))
   · first | (simp [go_sem]; done) | (simp [go_sem, *]; done) | (repeat (first | (with_reducible assumption) | ((with_reducible refine qK ?_ ?_ _); (· first | (simp; done) | (simp; omega) | omega)) | ((with_reducible refine qG ?_ ?_); (· (simp; done)); (· rfl)) | (with_reducible refine qt ?_ _) | (with_reducible refine qC ?_) | (with_reducible refine qu ?_ _) | (with_reducible refine qa (by assumption) ?_)))
   · (repeat (with_reducible (first | assumption | exact Below.refl _ _ | refine Below.drew ?_ | refine below_drewN ?_ _ | refine qj ?_ (by simp; try omega) _ | refine qe ?_ (Nat.le_refl _) _ | refine qi (by assumption) ?_)))
 case rest =>
  obtain ⟨a, b, wz, rfl, rfl, rfl, ha, hb, k0, k1, k2, k3, k4, k5, k6, k7, hbz⟩ := hcut
  have lt1 : w5.heap.size < w6.heap.size := World.block_lt_of_cell? _ _ f101
  have lt2 : gv < w6.heap.size := World.block_lt_of_cell? _ _ e13
  obtain ⟨t103, t104, t105, t106, t107⟩ : wz.cell? ⟨w5.heap.size, 0, none⟩ = some (.slice (some ⟨gv, 0, none⟩) 4 cap) ∧ wz.cell? ⟨w5.heap.size, 1, none⟩ = some (.int .i64 55904) ∧ wz.cell? ⟨gv, 13, none⟩ = some (.bool true) ∧ wz.cell? ⟨gv, 23, none⟩ = some (.int .i64 7493) ∧ wz.cell? ⟨gv, 26, none⟩ = some (.bool true) := by
   refine ⟨?_, ?_, ?_, ?_, ?_⟩ <;> (refine qa hbz ?_; repeat (first | (with_reducible assumption) | ((with_reducible refine qK ?_ ?_ _); (· first | (simp; done) | (simp; omega) | omega)) | ((with_reducible refine qG ?_ ?_); (· (simp; done)); (· rfl)) | (with_reducible refine qt ?_ _) | (with_reducible refine qC ?_) | (with_reducible refine qu ?_ _) | (with_reducible refine qa (by assumption) ?_)))
  have zt103 : w5.heap.size < wz.heap.size := World.block_lt_of_cell? _ _ t103
  have zt105 : gv < wz.heap.size := World.block_lt_of_cell? _ _ t105
  clear f101 f102 e13 e23 e26
  have za : a < wz.heap.size := World.block_lt_of_cell? _ _ k0
  have zb : b < wz.heap.size := World.block_lt_of_cell? _ _ k4
  go_wp2_with fail
  refine (aQ (some ⟨gv, 0, none⟩) kX cap 55904 1 _ (by decide) (hide (jf (show Below w6.heap.size w6 _ by (repeat (with_reducible (first | assumption | exact Below.refl _ _ | refine Below.drew ?_ | refine below_drewN ?_ _ | refine qj ?_ (by simp; try omega) _ | refine qe ?_ (Nat.le_refl _) _ | refine qi (by assumption) ?_)))) hp6.out)) (27952, 0) dS.symm).mono ?_
  rintro e w7 ⟨rfl, hb7⟩
  obtain ⟨f108, f109, f110, f111, f112, f113, f114, f115, f116, f117, f118, f119, f120⟩ : w7.cell? ⟨w5.heap.size, 0, none⟩ = some (.slice (some ⟨gv, 0, none⟩) 4 cap) ∧ w7.cell? ⟨w5.heap.size, 1, none⟩ = some (.int .i64 55904) ∧ w7.cell? ⟨gv, 13, none⟩ = some (.bool true) ∧ w7.cell? ⟨gv, 23, none⟩ = some (.int .i64 7493) ∧ w7.cell? ⟨gv, 26, none⟩ = some (.bool true) ∧ w7.cell? ⟨a, 0, none⟩ = some (.bool false) ∧ w7.cell? ⟨a, 1, none⟩ = some (.int .i64 0) ∧ w7.cell? ⟨a, 2, none⟩ = some (.int .i64 (-30000)) ∧ w7.cell? ⟨a, 10, none⟩ = some (.int .i64 20459) ∧ w7.cell? ⟨b, 0, none⟩ = some (.bool false) ∧ w7.cell? ⟨b, 3, none⟩ = some (.int .i64 30000) ∧ w7.cell? ⟨b, 4, none⟩ = some (.int .i64 0) ∧ w7.cell? ⟨b, 10, none⟩ = some (.int .i64 20459) := by
   refine ⟨?_, ?_, ?_, ?_, ?_, ?_, ?_, ?_, ?_, ?_, ?_, ?_, ?_⟩ <;> (refine qa hb7 ?_; repeat (first | (with_reducible assumption) | ((with_reducible refine qK ?_ ?_ _); (· first | (simp; done) | (simp; omega) | omega)) | ((with_reducible refine qG ?_ ?_); (· (simp; done)); (· rfl)) | (with_reducible refine qt ?_ _) | (with_reducible refine qC ?_) | (with_reducible refine qu ?_ _) | (with_reducible refine qa (by assumption) ?_)))
  have zf108 : w5.heap.size < w7.heap.size := World.block_lt_of_cell? _ _ f108
  have zf110 : gv < w7.heap.size := World.block_lt_of_cell? _ _ f110
  have zf113 : a < w7.heap.size := World.block_lt_of_cell? _ _ f113
  have zf117 : b < w7.heap.size := World.block_lt_of_cell? _ _ f117
  clear t103 zt103 t104 t105 zt105 t106 t107 k0 k1 k2 k3 k4 k5 k6 k7
  go_wp2_with fail
  go_quiet (fail)
  go_wp2_with fail
  refine (mV (some ⟨gv, 0, none⟩) kX cap 55904 10000 _ (by decide) (hide (jf (show Below w6.heap.size w6 _ by (repeat (with_reducible (first | assumption | exact Below.refl _ _ | refine Below.drew ?_ | refine below_drewN ?_ _ | refine qj ?_ (by simp; try omega) _ | refine qe ?_ (Nat.le_refl _) _ | refine qi (by assumption) ?_)))) hp6.out)) (0, -20000, 0, 0) lC.symm).mono ?_
  rintro e w8 ⟨rfl, hb8⟩
  obtain ⟨f121, f122, f123, f124, f125, f126, f127, f128, f129, f130, f131, f132, f133⟩ : w8.cell? ⟨w5.heap.size, 0, none⟩ = some (.slice (some ⟨gv, 0, none⟩) 4 cap) ∧ w8.cell? ⟨w5.heap.size, 1, none⟩ = some (.int .i64 55904) ∧ w8.cell? ⟨gv, 13, none⟩ = some (.bool true) ∧ w8.cell? ⟨gv, 23, none⟩ = some (.int .i64 7493) ∧ w8.cell? ⟨gv, 26, none⟩ = some (.bool true) ∧ w8.cell? ⟨a, 0, none⟩ = some (.bool false) ∧ w8.cell? ⟨a, 1, none⟩ = some (.int .i64 0) ∧ w8.cell? ⟨a, 2, none⟩ = some (.int .i64 (-30000)) ∧ w8.cell? ⟨a, 10, none⟩ = some (.int .i64 20459) ∧ w8.cell? ⟨b, 0, none⟩ = some (.bool false) ∧ w8.cell? ⟨b, 3, none⟩ = some (.int .i64 30000) ∧ w8.cell? ⟨b, 4, none⟩ = some (.int .i64 0) ∧ w8.cell? ⟨b, 10, none⟩ = some (.int .i64 20459) := by
   refine ⟨?_, ?_, ?_, ?_, ?_, ?_, ?_, ?_, ?_, ?_, ?_, ?_, ?_⟩ <;> (refine qa hb8 ?_; repeat (first | (with_reducible assumption) | ((with_reducible refine qK ?_ ?_ _); (· first | (simp; done) | (simp; omega) | omega)) | ((with_reducible refine qG ?_ ?_); (· (simp; done)); (· rfl)) | (with_reducible refine qt ?_ _) | (with_reducible refine qC ?_) | (with_reducible refine qu ?_ _) | (with_reducible refine qa (by assumption) ?_)))
  have zf121 : w5.heap.size < w8.heap.size := World.block_lt_of_cell? _ _ f121
  have zf123 : gv < w8.heap.size := World.block_lt_of_cell? _ _ f123
  have zf126 : a < w8.heap.size := World.block_lt_of_cell? _ _ f126
  have zf130 : b < w8.heap.size := World.block_lt_of_cell? _ _ f130
  clear f108 zf108 f109 f110 zf110 f111 f112 f113 zf113 f114 f115 f116 f117 zf117 f118 f119 f120
  go_wp2_with fail
  all_goals
   go_ret
   exact ⟨rfl, by (repeat (with_reducible (first | assumption | exact Below.refl _ _ | refine Below.drew ?_ | refine below_drewN ?_ _ | refine qj ?_ (by simp; try omega) _ | refine qe ?_ (Nat.le_refl _) _ | refine qi (by assumption) ?_)))⟩
end Go.Proofs.YtdlognnifmihnaaGreatDoor
