/-
  The walk of the law: behind a pattern a path is at its fix again.
-/
import Derived.Test.YtbhpklpkcgcmfaaGreatDoorMDrB
import Derived.Test.YtbhpklpkcgcmfaaGreatDoorMPlanIn
import Derived.Test.YtbhpklpkcgcmfaaGreatDoorCards
import Derived.Test.YtbhpklpkcgcmfaaGreatDoorTie
set_option maxRecDepth 100000
set_option maxHeartbeats 16000000
namespace Go.Proofs.YtbhpklpkcgcmfaaGreatDoor
open Go.RowKit
set_option linter.unusedVariables false
set_option linter.unusedSimpArgs false
theorem mem_join {w W0 W' : World} {L B : List Box} (h : Mem w W0 L) (k : Mem W0 W' B) : Mem w W' (L ++ B) := by
 have h1 := mem_below h k.below
 refine ⟨h1.below, fun g cs t hm => ?_, ?_⟩
 · rcases List.mem_append.1 hm with hm | hm
   · exact h1.rows g cs t hm
   · have := k.rows g cs t hm
     exact ⟨Nat.le_trans h.below.size this.1, this.2⟩
 · rw [List.map_append, List.nodup_append]
   refine ⟨h.nodup, k.nodup, fun a ha b hb he => ?_⟩
   obtain ⟨⟨x1, x2, x3⟩, hx, e1⟩ := List.mem_map.1 ha
   obtain ⟨⟨y1, y2, y3⟩, hy, e2⟩ := List.mem_map.1 hb
   have q1 := h.lt hx
   have q2 := (k.rows y1 y2 y3 hy).1
   simp only at e1 e2
   omega
theorem pathAt_of {w W : World} {L B : List Box} {SV : Option Addr} {n capV : Nat} {els : List El} {m : Nat} (hM : Mem w W L) (hO : OwE (.slice SV n capV) els B m) (hB : ∀ b ∈ B, b ∈ L) : pathAt W SV els := by
 intro k x hk
 obtain ⟨g, cap, cur, e, rfl, hcur⟩ := owE_row hO (by have := (List.getElem?_eq_some_iff.1 hk).1; omega)
 injection e with e1 e2 e3
 subst e1
 refine ⟨g, 0, rfl, ?_⟩
 have hr := row_el hcur rfl hk
 have hg := hM.rows g cur _ (hB _ (.head _))
 have key : ∀ (i : Nat) (v : Value), x.cells[i]? = some v → W.cell? ⟨g, k * 13 + i, none⟩ = some v := fun i v hv => by
  rw [cell_of_row W g _ cur.toArray _ (0, 0) hg.2]
  have hi : i < 13 := (List.getElem?_eq_some_iff.1 hv).1
  rw [← hr, List.getElem?_take, if_pos hi, List.getElem?_drop] at hv
  simpa using hv
 rw [Nat.zero_add]
 exact ⟨key 0 _ rfl, key 1 _ rfl, key 2 _ rfl, key 3 _ rfl, key 4 _ rfl, key 5 _ rfl, key 6 _ rfl, key 7 _ rfl, key 8 _ rfl, key 9 _ rfl, key 10 _ rfl, key 11 _ rfl, key 12 _ rfl⟩
theorem el_cell {cur : List Value} {els : List El} {k : Nat} {x : El} (hcur : cur.take (els.length * 13) = els.flatMap El.cells) (hx : els[k]? = some x) {i : Nat} {v : Value} (hv : x.cells[i]? = some v) : cur[k * 13 + i]? = some v := by
 have hi : i < 13 := (List.getElem?_eq_some_iff.1 hv).1
 rw [← row_el hcur rfl hx, List.getElem?_take, if_pos hi, List.getElem?_drop] at hv
 exact hv
theorem build_err {l : List En} {fx fy : Int} {R : Int × Int} {T : List Tk × Int × Int} (h : (buildT l fx fy R T).2.2 ≠ 0) : (buildT l fx fy R T).1 = [] := by
 unfold buildT at h ⊢
 by_cases h1 : T.2.2 ≠ 0
 · rw [if_pos h1]
 rw [if_neg h1] at h ⊢
 by_cases h2 : R.2 ≠ 0
 · rw [if_pos h2]
 rw [if_neg h2] at h ⊢
 generalize T.1 = ts at *
 cases ts with
 | nil => rfl
 | cons x r =>
   dsimp only at h ⊢
   by_cases h3 : (buildG l R.1 true false ⟨[], fx, fy, false⟩ x r).2.2 ≠ 0
   · rw [if_pos h3]
   rw [if_neg h3] at h ⊢
   by_cases h4 : ((buildG l R.1 true false ⟨[], fx, fy, false⟩ x r).1.els.length : Int) > 500
   · rw [if_pos h4]
   rw [if_neg h4] at h
   exact absurd rfl h
def FLs (i : Int) (l : List El) (fi la : Int) : Prop :=
 (fil i l = [] ∧ fi = -1 ∧ la = -1) ∨ ∃ (a b : Nat) (ea eb : El), fi = (a : Int) ∧ la = (b : Int) ∧ l[a]? = some ea ∧ l[b]? = some eb ∧ (fil i l).head? = some ea ∧ (fil i l).getLast? = some eb
theorem fl_nil (i : Int) : FLs i [] (-1) (-1) := .inl ⟨rfl, rfl, rfl⟩
theorem fl_no {i : Int} {l : List El} {y : El} {fi la : Int} (h : FLs i l fi la) (hy : y.n ≠ i) : FLs i (l ++ [y]) fi la := by
 have e : fil i (l ++ [y]) = fil i l := by rw [fil_app, fil_no (l := [y]) (fun e he => by rw [List.mem_singleton.1 he]; exact hy), List.append_nil]
 unfold FLs
 rw [e]
 rcases h with h | ⟨a, b, ea, eb, h1, h2, h3, h4, h5, h6⟩
 · exact .inl h
 · exact .inr ⟨a, b, ea, eb, h1, h2, by rw [List.getElem?_append_left (List.getElem?_eq_some_iff.1 h3).1]; exact h3, by rw [List.getElem?_append_left (List.getElem?_eq_some_iff.1 h4).1]; exact h4, h5, h6⟩
theorem fl_first {i : Int} {l : List El} {y : El} {fi la : Int} (h : FLs i l fi la) (hy : y.n = i) (hf : fi < 0) : FLs i (l ++ [y]) l.length l.length := by
 have e : fil i (l ++ [y]) = fil i l ++ [y] := by rw [fil_app, fil_all (l := [y]) (fun e he => by rw [List.mem_singleton.1 he]; exact hy)]
 unfold FLs
 rw [e]
 rcases h with ⟨h, _, _⟩ | ⟨a, b, ea, eb, h1, h2, h3, h4, h5, h6⟩
 · rw [h]
   exact .inr ⟨l.length, l.length, y, y, rfl, rfl, List.getElem?_concat_length, List.getElem?_concat_length, rfl, rfl⟩
 · omega
theorem fl_more {i : Int} {l : List El} {y : El} {fi la : Int} (h : FLs i l fi la) (hy : y.n = i) (hf : ¬ fi < 0) : FLs i (l ++ [y]) fi l.length := by
 have e : fil i (l ++ [y]) = fil i l ++ [y] := by rw [fil_app, fil_all (l := [y]) (fun e he => by rw [List.mem_singleton.1 he]; exact hy)]
 unfold FLs
 rw [e]
 rcases h with ⟨_, h, _⟩ | ⟨a, b, ea, eb, h1, h2, h3, h4, h5, h6⟩
 · omega
 · exact .inr ⟨a, l.length, ea, y, h1, rfl, by rw [List.getElem?_append_left (List.getElem?_eq_some_iff.1 h3).1]; exact h3, List.getElem?_concat_length, by rw [List.head?_append, h5]; rfl, List.getLast?_concat⟩
theorem take_end {l : List El} {k : Nat} {y : El} (h : l[k]? = some y) : l.take (k + 1) = l.take k ++ [y] := by
 rw [List.take_add_one, h]
 rfl
theorem topHolds_walk {W : World} (pa pb : ByteArray) (S : Option Addr) (l : List En) (cap : Nat) (act : Int) (s0 s1 s2 s3 s4 s5 s6 s7 : Int) (ha : pa.size ≤ maxLen) (hb : pb.size ≤ maxLen) (hact : I64 act) (hp : Hid (entsAt W S l)) (hxs : Hid (∀ (k : Nat) (x : En), l[k]? = some x → EnX x)) (hs0 : I64 s0) (hs1 : I64 s1) (hs2 : I64 s2) (hs3 : I64 s3) (hs4 : I64 s4) (hs5 : I64 s5) (hs6 : I64 s6) (hs7 : I64 s7) (hL : laidMetH Tryz.prog laidL W) (w : World) (hw : w = W := by rfl) :
 Calls Tryz.prog 3 #[.agg #[.string pa, .string pb, .slice S l.length cap, .int .i64 act], .agg #[.int .i64 s0, .int .i64 s1, .int .i64 s2, .int .i64 s3, .int .i64 s4, .int .i64 s5, .int .i64 s6, .int .i64 s7]] w fun e w' => e = .returned (.bool true) ∧ Below w.heap.size w w' := by
 subst hw
 have hu := hide (uses_of hL)
 clear hL
 have BA := fun W h1 h2 => build_any pa pb S l cap act s0 s1 s2 s4 s5 s6 s7 W ha hb h1 hxs hs2 hs6 h2
 obtain ⟨Q, hQ⟩ : ∃ Q, buildT l s0 s1 (radF s4 s5) (tracksF pa pb l act s0 s1 s2 s4 s5 s6 s7) = Q := ⟨_, rfl⟩
 rw [hQ] at BA
 have HQ := hide hQ
 obtain ⟨els, idx, er⟩ := Q
 by_cases he : er = 0
 rotate_left 1
 · have hne : (er != 0) = true := by simpa using he
   clear he hQ HQ
   have hM := mem_nil w
   go_enter Tryz.func3, Tryz.ntmps3
   go_upto_region 0 with (first | ((with_reducible refine lX ?_); first | refine aL hM rfl rfl ?_ | refine aM hM rfl rfl ?_) | ((with_reducible refine sX ?_); refine aS hM rfl rfl rfl ?_; clear hM; intro W hM) | ((with_reducible refine bX ?_); refine aB hM rfl rfl ?_; clear hM; intro g W hM) | ((with_reducible refine zX ?_); refine aN hM rfl rfl ?_; clear hM; intro g W hM))
   go_cut [2, 3] (fun t2 t3 wx => ∃ gP gS, t2 = .pointer (some ⟨gP, 0, none⟩) ∧ t3 = .pointer (some ⟨gS, 0, none⟩) ∧ Mem w wx [(gS, [.int .i64 s0, .int .i64 s1, .int .i64 s2, .int .i64 s3, .int .i64 s4, .int .i64 s5, .int .i64 s6, .int .i64 s7], 30), (gP, [.string pa, .string pb, .slice S l.length cap, .int .i64 act], 24)])
   case first =>
    go_wp2_with (first | ((with_reducible refine lX ?_); first | refine aL hM rfl rfl ?_ | refine aM hM rfl rfl ?_) | ((with_reducible refine sX ?_); refine aS hM rfl rfl rfl ?_; clear hM; intro W hM) | ((with_reducible refine bX ?_); refine aB hM rfl rfl ?_; clear hM; intro g W hM) | ((with_reducible refine zX ?_); refine aN hM rfl rfl ?_; clear hM; intro g W hM))
    all_goals
     go_meet
     exact ⟨_, _, rfl, rfl, hM⟩
   case rest =>
   clear hM
   obtain ⟨gP, gS, rfl, rfl, hM⟩ := hcut
   go_wp2_with (first | (go_at_call 9; (with_reducible refine (BA _ (hide (entsAt_old hM hp.out)) (hide (usesAt_mem hM hu.out))).mono ?_); rintro e W1 ⟨V, len, B, rfl, hO, hlen, hB⟩; replace hM := mem_join hM hB; clear hB; simp only [List.cons_append, List.nil_append] at hM; obtain ⟨SV, capV, hVV⟩ := ows_form hO.1; subst hVV; have HO := hide hO; clear hO; have HLEN := hide hlen; clear hlen) | ((with_reducible refine lX ?_); first | refine aL hM rfl rfl ?_ | refine aM hM rfl rfl ?_) | ((with_reducible refine sX ?_); refine aS hM rfl rfl rfl ?_; clear hM; intro W hM) | ((with_reducible refine bX ?_); refine aB hM rfl rfl ?_; clear hM; intro g W hM) | ((with_reducible refine zX ?_); refine aN hM rfl rfl ?_; clear hM; intro g W hM))
   all_goals
    go_ret
    exact ⟨rfl, hM.below⟩
 subst he
 have HHO := hide (show ∀ (i : Nat) (x : En), l[i]? = some x → x.gap = false → 14 ≤ x.ty → act ≤ (i : Int) → HoldOK (i : Int) x.ex x.ey els from fun i x hx hg ht hi => by
  have h := holds_law (l := l) (fx := s0) (fy := s1) (R := radF s4 s5) (pa := pa) (pb := pb) (act := act) (c := s2) (spd := s4) (bank := s5) (oalt := s6) (gr := s7) (by rw [hQ]) hx hg ht hi
  rw [hQ] at h
  exact h)
 have HL5 : els.length ≤ 500 := by
  have h := build_500 (l := l) (fx := s0) (fy := s1) (R := radF s4 s5) (T := tracksF pa pb l act s0 s1 s2 s4 s5 s6 s7)
  rw [hQ] at h
  exact h
 have HT0 : (tracksF pa pb l act s0 s1 s2 s4 s5 s6 s7).2.2 = 0 := by
  by_cases h1 : (tracksF pa pb l act s0 s1 s2 s4 s5 s6 s7).2.2 = 0
  · exact h1
  · unfold buildT at hQ
    rw [if_pos h1] at hQ
    exact absurd (congrArg (fun q => q.2.2) hQ) h1
 have HL60 := (plan_of (tracksF_ok HT0).1).2
 clear hQ HQ HT0
 have hM := mem_nil w
 go_enter Tryz.func3, Tryz.ntmps3
 go_upto_region 0 with (first | ((with_reducible refine lX ?_); first | refine aL hM rfl rfl ?_ | refine aM hM rfl rfl ?_) | ((with_reducible refine sX ?_); refine aS hM rfl rfl rfl ?_; clear hM; intro W hM) | ((with_reducible refine bX ?_); refine aB hM rfl rfl ?_; clear hM; intro g W hM) | ((with_reducible refine zX ?_); refine aN hM rfl rfl ?_; clear hM; intro g W hM))
 go_cut [2, 3] (fun t2 t3 wx => ∃ gP gS, t2 = .pointer (some ⟨gP, 0, none⟩) ∧ t3 = .pointer (some ⟨gS, 0, none⟩) ∧ Mem w wx [(gS, [.int .i64 s0, .int .i64 s1, .int .i64 s2, .int .i64 s3, .int .i64 s4, .int .i64 s5, .int .i64 s6, .int .i64 s7], 30), (gP, [.string pa, .string pb, .slice S l.length cap, .int .i64 act], 24)])
 case first =>
  go_wp2_with (first | ((with_reducible refine lX ?_); first | refine aL hM rfl rfl ?_ | refine aM hM rfl rfl ?_) | ((with_reducible refine sX ?_); refine aS hM rfl rfl rfl ?_; clear hM; intro W hM) | ((with_reducible refine bX ?_); refine aB hM rfl rfl ?_; clear hM; intro g W hM) | ((with_reducible refine zX ?_); refine aN hM rfl rfl ?_; clear hM; intro g W hM))
  all_goals
   go_meet
   exact ⟨_, _, rfl, rfl, hM⟩
 case rest =>
 clear hM
 obtain ⟨gP, gS, rfl, rfl, hM⟩ := hcut
 go_upto_region 2 with (first | (go_at_call 9; (with_reducible refine (BA _ (hide (entsAt_old hM hp.out)) (hide (usesAt_mem hM hu.out))).mono ?_); rintro e W1 ⟨V, len, B, rfl, hO, hlen, hB⟩; replace hM := mem_join hM hB; clear hB; simp only [List.cons_append, List.nil_append] at hM; obtain ⟨SV, capV, hVV⟩ := ows_form hO.1; subst hVV; have HO := hide hO; clear hO; have HLEN := hide hlen; clear hlen) | ((with_reducible refine lX ?_); first | refine aL hM rfl rfl ?_ | refine aM hM rfl rfl ?_) | ((with_reducible refine sX ?_); refine aS hM rfl rfl rfl ?_; clear hM; intro W hM) | ((with_reducible refine bX ?_); refine aB hM rfl rfl ?_; clear hM; intro g W hM) | ((with_reducible refine zX ?_); refine aN hM rfl rfl ?_; clear hM; intro g W hM))
 obtain ⟨gq, rfl⟩ : ∃ gq, gq = g := ⟨_, rfl⟩
 go_wp2_with (first | ((with_reducible refine lX ?_); first | refine aL hM rfl rfl ?_ | refine aM hM rfl rfl ?_) | ((with_reducible refine sX ?_); refine aS hM rfl rfl rfl ?_; clear hM; intro W hM) | ((with_reducible refine bX ?_); refine aB hM rfl rfl ?_; clear hM; intro g W hM) | ((with_reducible refine zX ?_); refine aN hM rfl rfl ?_; clear hM; intro g W hM))
 go_loopw [32] (fun s32 wx => ∃ i : Nat, i ≤ l.length ∧ s32 = .int .i64 i ∧ Mem w wx ((gq, [.slice SV els.length capV, .int .i64 len], 33) :: (gS, [.int .i64 s0, .int .i64 s1, .int .i64 s2, .int .i64 s3, .int .i64 s4, .int .i64 s5, .int .i64 s6, .int .i64 s7], 30) :: (gP, [.string pa, .string pb, .slice S l.length cap, .int .i64 act], 24) :: B)) (fun i _ => l.length - (intOf i).toNat)
 case atStart => exact ⟨0, Nat.zero_le _, rfl, hM⟩
 case round =>
  clear hM
  obtain ⟨i, hi, rfl, hM⟩ := hrel
  by_cases hlt : i < l.length
  · obtain ⟨x, hx⟩ : ∃ x, l[i]? = some x := ⟨_, List.getElem?_eq_getElem hlt⟩
    obtain ⟨b, o, rfl, hat⟩ := hp.out i x hx
    have HAT := hide hat
    have HX := hide hx
    clear hat hx
    go_upto_region 7 with (first | ((with_reducible refine lX ?_); refine mq_old hM rfl (by first | exact rfl | (go_simp; done)) rfl (agT rfl) HAT.out (szT rfl) ?_) | ((with_reducible refine lX ?_); first | refine aL hM rfl rfl ?_ | refine aM hM rfl rfl ?_) | ((with_reducible refine sX ?_); refine aS hM rfl rfl rfl ?_; clear hM; intro W hM) | ((with_reducible refine bX ?_); refine aB hM rfl rfl ?_; clear hM; intro g W hM) | ((with_reducible refine zX ?_); refine aN hM rfl rfl ?_; clear hM; intro g W hM))
    obtain ⟨gx, rfl⟩ : ∃ gx, gx = g := ⟨_, rfl⟩
    try simp only [pS, pN, sA, sB, sC]
    go_cut [50] (fun s wx => ∃ q, s = .bool q ∧ Hid (q = (x.gap || decide (x.ty < 14) || decide ((i : Int) < act))) ∧ Mem w wx ((gx, [.bool x.gap, .int .u8 x.ty, .string x.fx, .string x.ct, .int .u8 x.tn, .bool x.ov, .int .i64 x.crs, .int .i64 x.dst, .int .i64 x.rad, .int .i64 x.tht, .int .i64 x.lo, .int .i64 x.hi, .int .i64 x.spd, .int .i64 x.rnp, .int .i64 x.ex, .int .i64 x.ey, .int .i64 x.mx, .int .i64 x.my, .int .u8 x.sec, .string x.via], 44) :: (gq, [.slice SV els.length capV, .int .i64 len], 33) :: (gS, [.int .i64 s0, .int .i64 s1, .int .i64 s2, .int .i64 s3, .int .i64 s4, .int .i64 s5, .int .i64 s6, .int .i64 s7], 30) :: (gP, [.string pa, .string pb, .slice (some ⟨b, o, none⟩) l.length cap, .int .i64 act], 24) :: B))
    case first =>
     go_wp2_with (first | ((with_reducible refine lX ?_); first | refine aL hM rfl rfl ?_ | refine aM hM rfl rfl ?_) | ((with_reducible refine sX ?_); refine aS hM rfl rfl rfl ?_; clear hM; intro W hM) | ((with_reducible refine bX ?_); refine aB hM rfl rfl ?_; clear hM; intro g W hM) | ((with_reducible refine zX ?_); refine aN hM rfl rfl ?_; clear hM; intro g W hM))
     all_goals
      go_meet
      exact ⟨_, rfl, hide (by first | rfl | (simp_all; done) | (simp [*]; done)), hM⟩
    case rest =>
    clear hM
    obtain ⟨b7, rfl, hb7, hM⟩ := hcut
    rcases b7 with _ | _
    rotate_left 1
    · go_wp2_with (first | ((with_reducible refine lX ?_); first | refine aL hM rfl rfl ?_ | refine aM hM rfl rfl ?_) | ((with_reducible refine sX ?_); refine aS hM rfl rfl rfl ?_; clear hM; intro W hM) | ((with_reducible refine bX ?_); refine aB hM rfl rfl ?_; clear hM; intro g W hM) | ((with_reducible refine zX ?_); refine aN hM rfl rfl ?_; clear hM; intro g W hM))
      all_goals
       (go_roundw
        case rel => exact ⟨i + 1, hlt, by go_num, mem_tl hM⟩
        case measure => simp [intOf]; omega)
    have hb := hb7.out.symm
    rw [Bool.or_eq_false_iff, Bool.or_eq_false_iff] at hb
    have HH := hide (HHO.out i x HX.out hb.1.1 (by have := of_decide_eq_false hb.1.2; omega) (by have := of_decide_eq_false hb.2; omega))
    clear hb hb7
    go_wp2_with (first | ((with_reducible refine lX ?_); first | refine aL hM rfl rfl ?_ | refine aM hM rfl rfl ?_) | ((with_reducible refine sX ?_); refine aS hM rfl rfl rfl ?_; clear hM; intro W hM) | ((with_reducible refine bX ?_); refine aB hM rfl rfl ?_; clear hM; intro g W hM) | ((with_reducible refine zX ?_); refine aN hM rfl rfl ?_; clear hM; intro g W hM))
    go_loopw [10, 11, 54] (fun s10 s11 s54 wx => ∃ (k : Nat) (fi la : Int), k ≤ els.length ∧ s10 = .int .i64 fi ∧ s11 = .int .i64 la ∧ s54 = .int .i64 k ∧ Hid (FLs (i : Int) (els.take k) fi la) ∧ Mem w wx ((gx, [.bool x.gap, .int .u8 x.ty, .string x.fx, .string x.ct, .int .u8 x.tn, .bool x.ov, .int .i64 x.crs, .int .i64 x.dst, .int .i64 x.rad, .int .i64 x.tht, .int .i64 x.lo, .int .i64 x.hi, .int .i64 x.spd, .int .i64 x.rnp, .int .i64 x.ex, .int .i64 x.ey, .int .i64 x.mx, .int .i64 x.my, .int .u8 x.sec, .string x.via], 44) :: (gq, [.slice SV els.length capV, .int .i64 len], 33) :: (gS, [.int .i64 s0, .int .i64 s1, .int .i64 s2, .int .i64 s3, .int .i64 s4, .int .i64 s5, .int .i64 s6, .int .i64 s7], 30) :: (gP, [.string pa, .string pb, .slice (some ⟨b, o, none⟩) l.length cap, .int .i64 act], 24) :: B)) (fun _ _ k _ => els.length - (intOf k).toNat)
    case atStart => exact ⟨0, -1, -1, Nat.zero_le _, rfl, rfl, rfl, hide (fl_nil _), hM⟩
    case round =>
     clear hM
     obtain ⟨k, fi, la, hk, rfl, rfl, rfl, HF, hM⟩ := hrel
     by_cases hkl : k < els.length
     · obtain ⟨y, hy⟩ : ∃ y, els[k]? = some y := ⟨_, List.getElem?_eq_getElem hkl⟩
       obtain ⟨gB, capB, cur, eq1, rfl, hcur⟩ := owE_row HO.out (by omega)
       simp only [Value.slice.injEq, true_and] at eq1
       obtain ⟨rfl, rfl⟩ := eq1
       have HC := hide (row_el hcur rfl hy)
       have HT := hide (take_end hy)
       have hlen : (els.take k).length = k := by rw [List.length_take]; omega
       have HLN := hide hlen
       clear hcur hy hlen
       by_cases hyi : y.n = (i : Int)
       · have e1 : (y.n == (i : Int)) = true := by simpa using hyi
         have HYI := hide hyi
         clear hyi
         by_cases hf : fi < 0
         · have HF1 := hide (show FLs (i : Int) (els.take (k + 1)) (k : Int) (k : Int) by have h := fl_first HF.out HYI.out hf; rw [HLN.out] at h; rw [HT.out]; exact h)
           go_wp2_with (first | ((with_reducible refine lX ?_); refine rowE hM rfl rfl rfl (by ((repeat constructor) <;> fail)) HC.out ?_) | ((with_reducible refine lX ?_); first | refine aL hM rfl rfl ?_ | refine aM hM rfl rfl ?_) | ((with_reducible refine sX ?_); refine aS hM rfl rfl rfl ?_; clear hM; intro W hM) | ((with_reducible refine bX ?_); refine aB hM rfl rfl ?_; clear hM; intro g W hM) | ((with_reducible refine zX ?_); refine aN hM rfl rfl ?_; clear hM; intro g W hM))
           all_goals
            go_roundw
            case rel => exact ⟨k + 1, k, k, hkl, rfl, rfl, by go_num, HF1, mem_tl hM⟩
            case measure => simp [intOf]; omega
         · have HF1 := hide (show FLs (i : Int) (els.take (k + 1)) fi (k : Int) by have h := fl_more HF.out HYI.out hf; rw [HLN.out] at h; rw [HT.out]; exact h)
           go_wp2_with (first | ((with_reducible refine lX ?_); refine rowE hM rfl rfl rfl (by ((repeat constructor) <;> fail)) HC.out ?_) | ((with_reducible refine lX ?_); first | refine aL hM rfl rfl ?_ | refine aM hM rfl rfl ?_) | ((with_reducible refine sX ?_); refine aS hM rfl rfl rfl ?_; clear hM; intro W hM) | ((with_reducible refine bX ?_); refine aB hM rfl rfl ?_; clear hM; intro g W hM) | ((with_reducible refine zX ?_); refine aN hM rfl rfl ?_; clear hM; intro g W hM))
           all_goals
            go_roundw
            case rel => exact ⟨k + 1, fi, k, hkl, rfl, rfl, by go_num, HF1, mem_tl hM⟩
            case measure => simp [intOf]; omega
       · have e1 : (y.n == (i : Int)) = false := by simpa using hyi
         have HF1 := hide (show FLs (i : Int) (els.take (k + 1)) fi la by rw [HT.out]; exact fl_no HF.out hyi)
         clear hyi
         go_wp2_with (first | ((with_reducible refine lX ?_); refine rowE hM rfl rfl rfl (by ((repeat constructor) <;> fail)) HC.out ?_) | ((with_reducible refine lX ?_); first | refine aL hM rfl rfl ?_ | refine aM hM rfl rfl ?_) | ((with_reducible refine sX ?_); refine aS hM rfl rfl rfl ?_; clear hM; intro W hM) | ((with_reducible refine bX ?_); refine aB hM rfl rfl ?_; clear hM; intro g W hM) | ((with_reducible refine zX ?_); refine aN hM rfl rfl ?_; clear hM; intro g W hM))
         all_goals
          go_roundw
          case rel => exact ⟨k + 1, fi, la, hkl, rfl, rfl, by go_num, HF1, mem_tl hM⟩
          case measure => simp [intOf]; omega
     · have HF1 := HF.out
       rw [show els.take k = els by rw [show k = els.length by omega, List.take_length]] at HF1
       obtain ⟨ea, eb, h1, h2, h3, h4⟩ := HH.out
       obtain ⟨a, c, ea', eb', rfl, rfl, f3, f4, f5, f6⟩ : ∃ (a b : Nat) (ea eb : El), fi = (a : Int) ∧ la = (b : Int) ∧ els[a]? = some ea ∧ els[b]? = some eb ∧ (fil i els).head? = some ea ∧ (fil i els).getLast? = some eb := by
        rcases HF1 with ⟨h, _, _⟩ | h
        · rw [h] at h1; cases h1
        · exact h
       rw [f5] at h1
       injection h1 with h1
       subst h1
       rw [f6] at h2
       injection h2 with h2
       subst h2
       obtain ⟨gB, capB, cur, eq1, rfl, hcur⟩ := owE_row HO.out (by have := (List.getElem?_eq_some_iff.1 f3).1; omega)
       simp only [Value.slice.injEq, true_and] at eq1
       obtain ⟨rfl, rfl⟩ := eq1
       have HC := hide (row_el hcur rfl f3)
       have R3 := hide ((el_cell hcur f4 (i := 3) rfl).trans (congrArg (fun v => some (Value.int .i64 v)) h4.1))
       have R4 := hide ((el_cell hcur f4 (i := 4) rfl).trans (congrArg (fun v => some (Value.int .i64 v)) h4.2))
       have al := (List.getElem?_eq_some_iff.1 f3).1
       have cl := (List.getElem?_eq_some_iff.1 f4).1
       have al1 : (a : Int) < els.length := by omega
       have cl1 : (c : Int) < els.length := by omega
       have n1 : ¬ (a : Int) < 0 := by omega
       have H3 := hide h3
       clear HF HF1 HH h3 h4 f3 f4 f5 f6 hcur
       go_upto_region 17 with (first | ((with_reducible refine lX ?_); first | refine aL hM rfl rfl ?_ | refine aM hM rfl rfl ?_) | ((with_reducible refine sX ?_); refine aS hM rfl rfl rfl ?_; clear hM; intro W hM) | ((with_reducible refine bX ?_); refine aB hM rfl rfl ?_; clear hM; intro g W hM) | ((with_reducible refine zX ?_); refine aN hM rfl rfl ?_; clear hM; intro g W hM))
       try simp only [pS, pN, sA, sB, sC]
       go_cut [80] (fun s wx => s = .bool false ∧ Mem w wx ((gx, [.bool x.gap, .int .u8 x.ty, .string x.fx, .string x.ct, .int .u8 x.tn, .bool x.ov, .int .i64 x.crs, .int .i64 x.dst, .int .i64 x.rad, .int .i64 x.tht, .int .i64 x.lo, .int .i64 x.hi, .int .i64 x.spd, .int .i64 x.rnp, .int .i64 x.ex, .int .i64 x.ey, .int .i64 x.mx, .int .i64 x.my, .int .u8 x.sec, .string x.via], 44) :: (gq, [.slice (some ⟨gB, 0, none⟩) els.length capV, .int .i64 len], 33) :: (gS, [.int .i64 s0, .int .i64 s1, .int .i64 s2, .int .i64 s3, .int .i64 s4, .int .i64 s5, .int .i64 s6, .int .i64 s7], 30) :: (gP, [.string pa, .string pb, .slice (some ⟨b, o, none⟩) l.length cap, .int .i64 act], 24) :: [(gB, cur, 48)]))
       case first =>
        have q0 : wr.cell? ⟨gq, 0, none⟩ = some (.slice (some ⟨gB, 0, none⟩) els.length capV) := hM.cell (Lk.tail Lk.head) 0
        have c14 : wr.cell? ⟨gx, 14, none⟩ = some (.int .i64 x.ex) := hM.cell Lk.head 14
        have c15 : wr.cell? ⟨gx, 15, none⟩ = some (.int .i64 x.ey) := hM.cell Lk.head 15
        have r3 : wr.cell? ⟨gB, c * 13 + 3, none⟩ = some (.int .i64 x.ex) := (hM.cell (by ((repeat constructor) <;> fail)) _).trans R3.out
        have r4 : wr.cell? ⟨gB, c * 13 + 4, none⟩ = some (.int .i64 x.ey) := (hM.cell (by ((repeat constructor) <;> fail)) _).trans R4.out
        go_quiet (fail)
        all_goals
         go_wp2_with fail
         all_goals
          go_meet
          exact ⟨by first | rfl | (simp; done), by first | exact hM | exact mem_drew hM | exact mem_drewN hM _ | exact mem_drew (mem_drew hM)⟩
       case rest =>
       clear hM
       obtain ⟨rfl, hM⟩ := hcut
       rcases H3.out with ⟨h3, h4⟩ | ⟨h3, h4⟩
       · go_upto_region 20 with (first | ((with_reducible refine lX ?_); refine rowE hM rfl rfl rfl (by ((repeat constructor) <;> fail)) HC.out ?_) | ((with_reducible refine lX ?_); first | refine aL hM rfl rfl ?_ | refine aM hM rfl rfl ?_) | ((with_reducible refine sX ?_); refine aS hM rfl rfl rfl ?_; clear hM; intro W hM) | ((with_reducible refine bX ?_); refine aB hM rfl rfl ?_; clear hM; intro g W hM) | ((with_reducible refine zX ?_); refine aN hM rfl rfl ?_; clear hM; intro g W hM))
         rw [h3, h4] at hM
         clear h3 h4 H3
         go_wp2_with (first | ((with_reducible refine lX ?_); first | refine aL hM rfl rfl ?_ | refine aM hM rfl rfl ?_) | ((with_reducible refine sX ?_); refine aS hM rfl rfl rfl ?_; clear hM; intro W hM) | ((with_reducible refine bX ?_); refine aB hM rfl rfl ?_; clear hM; intro g W hM) | ((with_reducible refine zX ?_); refine aN hM rfl rfl ?_; clear hM; intro g W hM))
         all_goals
          (go_roundw
           case rel => exact ⟨i + 1, hlt, by go_num, mem_tl (mem_tl hM)⟩
           case measure => simp [intOf]; omega)
       · go_upto_region 20 with (first | ((with_reducible refine lX ?_); refine rowE hM rfl rfl rfl (by ((repeat constructor) <;> fail)) HC.out ?_) | ((with_reducible refine lX ?_); first | refine aL hM rfl rfl ?_ | refine aM hM rfl rfl ?_) | ((with_reducible refine sX ?_); refine aS hM rfl rfl rfl ?_; clear hM; intro W hM) | ((with_reducible refine bX ?_); refine aB hM rfl rfl ?_; clear hM; intro g W hM) | ((with_reducible refine zX ?_); refine aN hM rfl rfl ?_; clear hM; intro g W hM))
         rw [h3, h4] at hM
         have hc : (ea'.ax != x.ex) = true ∨ ((ea'.ax != x.ex) = false ∧ (ea'.ay != x.ey) = true) ∨ ((ea'.ax != x.ex) = false ∧ (ea'.ay != x.ey) = false) := by
          cases (ea'.ax != x.ex) <;> cases (ea'.ay != x.ey) <;> simp
         clear h3 h4 H3
         go_wp2_with (first | ((with_reducible refine lX ?_); first | refine aL hM rfl rfl ?_ | refine aM hM rfl rfl ?_) | ((with_reducible refine sX ?_); refine aS hM rfl rfl rfl ?_; clear hM; intro W hM) | ((with_reducible refine bX ?_); refine aB hM rfl rfl ?_; clear hM; intro g W hM) | ((with_reducible refine zX ?_); refine aN hM rfl rfl ?_; clear hM; intro g W hM))
         all_goals
          (go_roundw
           case rel => exact ⟨i + 1, hlt, by go_num, mem_tl (mem_tl hM)⟩
           case measure => simp [intOf]; omega)
  · go_wp2_with (first | ((with_reducible refine lX ?_); first | refine aL hM rfl rfl ?_ | refine aM hM rfl rfl ?_) | ((with_reducible refine sX ?_); refine aS hM rfl rfl rfl ?_; clear hM; intro W hM) | ((with_reducible refine bX ?_); refine aB hM rfl rfl ?_; clear hM; intro g W hM) | ((with_reducible refine zX ?_); refine aN hM rfl rfl ?_; clear hM; intro g W hM))
    all_goals
     go_ret
     exact ⟨rfl, hM.below⟩
end Go.Proofs.YtbhpklpkcgcmfaaGreatDoor
/-
  TopHolds: the row's step: the given statement 'TopHoldsSaid' out of the walk.
-/
namespace Go.Proofs.YtbhpklpkcgcmfaaGreatDoor.topHolds
open Go.ChangeShapes Go.WideShapes Go.ChangeAt Go.RowKit
set_option linter.unusedVariables false
theorem own : ownKnob Tryz.prog.godebug = none := by kernel_rfl
theorem laidOut : laidOutB Tryz.prog = true := pf_laid
theorem typed : (Tryz.f3.params.toList.all fun t => Tryz.prog.readableRec t && decide (t < Tryz.prog.types.size)) = true := by kernel_rfl
theorem typed' : ∀ t ∈ Tryz.f3.params.toList, Tryz.prog.readableRec t = true ∧ t < Tryz.prog.types.size := by
 intro t ht
 have h := List.all_eq_true.1 typed t ht
 simpa using h
theorem ct24 : Tryz.prog.cellTypes Tryz.prog.depth 24 = some [9, 9, 22, 3] := by kernel_rfl
theorem cn24 : Tryz.prog.cellsOf 24 = ([9, 9, 22, 3] : List TypeId).length := by kernel_rfl
theorem ct30 : Tryz.prog.cellTypes Tryz.prog.depth 30 = some (List.replicate 8 2) := by kernel_rfl
theorem cn30 : Tryz.prog.cellsOf 30 = (List.replicate 8 2).length := by kernel_rfl
theorem lifted (os : Os) (started : os.Started) (H : Type) (enc : TypeId × Value → H) :
 ReturnsInHanded {} Tryz.checked os 3 .any (fun w args => (Rows.topHoldsSpec.pre enc Tryz.prog Tryz.f3 Rows.topHoldsRow.domain false w args ∧ laidMetH Tryz.prog laidL w) ∧ sizedMet enc Tryz.prog Tryz.f3 (OpenSpec.ofChange Rows.topHoldsSpec) false w args) (Rows.topHoldsSpec.post enc Tryz.prog Tryz.f3 false true false false) := by
 refine returnsInHanded_of_change_and (C := Tryz.checked) (X := fun w _ => laidMetH Tryz.prog laidL w) (fun _ _ _ hh h => h.of_heap hh) own started (by kernel_rfl) Tryz.func3
  (ChangeSpec.witness_shaped (enc := enc) (C := Tryz.checked) (os := os) (X := fun w _ => laidMetH Tryz.prog laidL w) false (World.doorLaid Tryz.prog 400 os) #[.agg #[.string ⟨#[]⟩, .string ⟨#[]⟩, .slice none 0 0, .int .i64 0], .agg #[.int .i64 0, .int .i64 0, .int .i64 0, .int .i64 0, .int .i64 0, .int .i64 0, .int .i64 0, .int .i64 0]] 8 rfl (World.shaped_of_RefB (by kernel_rfl) (by kernel_rfl)) (by kernel_rfl) (by kernel_rfl) (by kernel_rfl) (door_met os _)) ?_
 intro W base args ds gs before hval0 hW hcnd _ hL _
 have hval : ∀ (j : Nat) t v, Tryz.f3.params[j]? = some t → args[j]? = some v → Value.okWide Tryz.prog W .any base t v := hval0
 have hW' := hW
 obtain ⟨p, q, hA0, hV, rfl, hfz, hnd⟩ := hW
 have hlen := trodAll_length _ _ _ _ hA0
 rw [Tryz.params3] at hval hlen
 obtain ⟨v0, v1, rfl⟩ := arr2 hlen.1
 obtain ⟨d0, d1, rfl⟩ := list2 hlen.2
 obtain ⟨lp, rfl, ep, hlp⟩ := ok_agg (Or.inl ⟨_, Tryz.underlying24⟩) ct24 cn24 (hval 0 24 v0 rfl rfl)
 obtain ⟨pc0, pc1, pc2, pc3, rfl⟩ := list4 (ep.trans (by rfl))
 have hA' := hA0
 rw [Tryz.params3] at hA'
 obtain ⟨_, _, hTp, _⟩ := hA'
 obtain ⟨pA, pB, pS, pl, pcap, pact, hpv, hpA, hpB, hpn, hpact, hpp, hpx⟩ := plan_in hTp ⟨pc0, pc1, pc2, pc3, rfl⟩
 obtain ⟨rfl, rfl, rfl, rfl⟩ : pc0 = .string pA ∧ pc1 = .string pB ∧ pc2 = .slice pS pl.length pcap ∧ pc3 = .int .i64 pact := by simpa using hpv
 obtain ⟨ls, rfl, es, hls⟩ := ok_ints (Or.inl ⟨_, Tryz.underlying30⟩) ct30 cn30 (fun u hu => by rw [List.eq_of_mem_replicate hu]; exact Tryz.underlying2) (hval 1 30 v1 rfl rfl)
 obtain ⟨s0, s1, s2, s3, s4, s5, s6, s7, rfl⟩ := list8 (es.trans (by simp))
 have hs0 : I64 s0 := hls _ (by simp)
 have hs1 : I64 s1 := hls _ (by simp)
 have hs2 : I64 s2 := hls _ (by simp)
 have hs3 : I64 s3 := hls _ (by simp)
 have hs4 : I64 s4 := hls _ (by simp)
 have hs5 : I64 s5 := hls _ (by simp)
 have hs6 : I64 s6 := hls _ (by simp)
 have hs7 : I64 s7 := hls _ (by simp)
 refine (topHolds_walk pA pB pS pl pcap pact s0 s1 s2 s3 s4 s5 s6 s7 hpA hpB hpact (hide hpp) (hide hpx) hs0 hs1 hs2 hs3 hs4 hs5 hs6 hs7 hL W).mono fun e W' ⟨he, hb⟩ => ?_
 subst he
 exact ⟨_, rfl, law_post (f := Tryz.f3) (s := Rows.topHoldsSpec) (tb := 4) laidOut typed' rfl (by kernel_rfl) Tryz.underlying4 hW' ⟨rfl, rfl, rfl⟩ hb⟩
theorem k0 : (Rows.topHoldsRow.wf (OpenSpec.ofChange Rows.topHoldsSpec)) = true := by kernel_rfl
theorem k3 : (Tryz.f3.params.all (Tryz.prog.readableRec ·)) = true := by kernel_rfl
theorem k4 : (namedTie Tryz.prog Rows.topHoldsRow.named Rows.topHoldsSpec.vars) = true := by kernel_rfl
theorem k5 : (Rows.topHoldsRow.stops == []) = true := by kernel_rfl
theorem k7 : (Rows.topHoldsRow.knobs == []) = true := by kernel_rfl
theorem k9 : (Rows.topHoldsRow.inPlace == Tryz.prog.inPlace 3) = true := by kernel_rfl
theorem k10 : (Rows.topHoldsRow.unfollowed == Tryz.prog.unfollowed 3) = true := by kernel_rfl
theorem k11 : (Rows.topHoldsRow.recurses == Tryz.prog.recurses 3) = true := by kernel_rfl
theorem k12 : (Rows.topHoldsRow.named == Tryz.prog.varsNamed 3) = true := by kernel_rfl
theorem k13 : (Rows.topHoldsRow.maps == (Tryz.f3.params.toList ++ Rows.topHoldsSpec.plain.varTypes Tryz.prog).any (Tryz.prog.mapsRec ·)) = true := by kernel_rfl
theorem k14 : (Rows.topHoldsRow.ifaces == (Tryz.f3.params.toList ++ Rows.topHoldsSpec.plain.varTypes Tryz.prog).any (Tryz.prog.ifacesRec ·)) = true := by kernel_rfl
theorem k15 : (Rows.topHoldsRow.mapsOut == Tryz.prog.mapsAmong Tryz.f3.resultTypes.toList) = true := by kernel_rfl
theorem k16 : (Rows.topHoldsRow.loops == (Tryz.f3.params.toList ++ Rows.topHoldsSpec.plain.varTypes Tryz.prog).any (Tryz.prog.loopsFrom ·)) = true := by kernel_rfl
theorem k17 : (Rows.topHoldsRow.wideKeys == (Tryz.f3.params.toList ++ Rows.topHoldsSpec.plain.varTypes Tryz.prog ++ Tryz.f3.resultTypes.toList).any (Tryz.prog.wideKeysFrom ·)) = true := by kernel_rfl
theorem k18 : (Rows.topHoldsSpec.vars.all (Tryz.prog.varReadable ·)) = true := by kernel_rfl
theorem k19 : (Tryz.f3.resultTypes.all (fun t => Tryz.prog.readableRec t && decide (t < Tryz.prog.types.size))) = true := by kernel_rfl
theorem k20 : (Rows.topHoldsRow.ifacesOut == Tryz.f3.resultTypes.toList.any (Tryz.prog.ifacesRec ·)) = true := by kernel_rfl
theorem k21 : (Rows.topHoldsRow.loopsOut == Tryz.f3.resultTypes.toList.any (Tryz.prog.loopsFrom ·)) = true := by kernel_rfl
theorem k22 : (Rows.topHoldsRow.plainKeys == Tryz.prog.plainKeys) = true := by kernel_rfl
theorem k23 : (Rows.topHoldsRow.shortTexts.isNone) = true := by kernel_rfl
theorem k26 : (Rows.topHoldsRow.lifted == Tryz.prog.liftsFinal) = true := by rw [pf_lifts]; rfl
theorem k27 : (Tryz.prog.make == some Rows.topHoldsRow.make) = true := by rw [pf_make]; rfl
theorem k28 : (Rows.topHoldsRow.kinds == (if Rows.topHoldsRow.domain.isEmpty then [] else Tryz.f3.params.toList.map fun t => match Tryz.prog.underlying t with | some (.int k) => some k | _ => none)) = true := by kernel_rfl
theorem k29 : (Rows.topHoldsRow.pinned == Rows.topHoldsRow.pinnedBy) = true := by kernel_rfl
theorem k30 : (Rows.topHoldsRow.veiled == (Tryz.f3.params.toList ++ Rows.topHoldsSpec.plain.varTypes Tryz.prog ++ Tryz.f3.resultTypes.toList).any (Tryz.prog.veiledRec ·)) = true := by kernel_rfl
theorem k31 : (Rows.topHoldsRow.veiledFits Tryz.prog Tryz.f3.params.toList (Tryz.f3.params.toList ++ Rows.topHoldsSpec.plain.varTypes Tryz.prog ++ Tryz.f3.resultTypes.toList)) = true := by kernel_rfl
theorem closed : joinedFacts Tryz.prog 3 Tryz.f3 Rows.topHoldsSpec Rows.topHoldsRow = true := (band (band (band (band (band (band (band (band (band (band (band (band (band (band (band (band (band (band (band (band (band (band (band (band (band (band (band (band (band (band (band k0 pf_laid) pf_maps) k3) k4) k5) pf_stops) k7) pf_knobs) k9) k10) k11) k12) k13) k14) k15) k16) k17) k18) k19) k20) k21) k22) k23) pf_heard) pf_enter) k26) k27) k28) k29) k30) k31)
theorem byName : Tryz.prog.funcNamed Rows.topHoldsRow.func = some 3 := by kernel_rfl
theorem inst : Tryz.f3.isInstance Tryz.prog Rows.topHoldsRow.origin Rows.topHoldsRow.targs := of_decide_eq_true (by kernel_rfl)
theorem over : Rows.topHoldsRow.holds Tryz.pinned (OpenSpec.ofChange Rows.topHoldsSpec) :=
 OpenClaim.holds_of_wide 3 Tryz.f3 rfl rfl rfl rfl rfl rfl rfl ⟨rfl, rfl, rfl, rfl, rfl⟩ rfl rfl rfl rfl rfl byName Tryz.func3 closed
  inst (by unfold Func.isWrapper; rw [if_neg (of_decide_eq_false (by kernel_rfl))]; exact ⟨rfl, rfl⟩)
  (fun os started H enc _ => lifted os started H enc)
theorem proved : Rows.TopHoldsCardSaid :=
 Claim7.holds_tied_plain_at .later [] [.data] true Rows.topHoldsCard.stood.harness false
  over (fun _ h => by cases h) (by kernel_rfl) (fun _ h => by cases h) topHolds_row_tie rfl ⟨rfl, rfl⟩ (by kernel_rfl) rfl
  (fun f fn hf hfn => by
    obtain rfl : f = 3 := Option.some.inj ((show Tryz.prog.funcNamed "flightdeck/flightdecktop.TopHolds" = some 3 by kernel_rfl).symm.trans hf) |>.symm
    obtain rfl : fn = Tryz.f3 := (Option.some.inj (Tryz.func3.symm.trans hfn)).symm
    exact ⟨by kernel_rfl, fun j t ht => by
     have hm : t ∈ Tryz.f3.params.toList := by simpa using Array.mem_of_getElem? ht
     have hall : (Tryz.f3.params.toList.all fun u => !Tryz.prog.wantsStandIn u) = true := by kernel_rfl
     exact (show Tryz.prog.wantsStandIn t = false by simpa using List.all_eq_true.1 hall t hm)⟩)
  (by kernel_rfl)
end Go.Proofs.YtbhpklpkcgcmfaaGreatDoor.topHolds
