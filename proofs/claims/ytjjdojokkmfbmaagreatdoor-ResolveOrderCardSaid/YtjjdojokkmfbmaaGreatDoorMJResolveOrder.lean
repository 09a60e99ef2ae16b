/-
  ResolveOrder: the walk of the law, then the row's step: the given card out of the walk.
-/
import Derived.Test.YtjjdojokkmfbmaaGreatDoorRows
import Derived.Test.YtjjdojokkmfbmaaGreatDoorCards
import Derived.Test.YtjjdojokkmfbmaaGreatDoorMLaid25
import Derived.Test.YtjjdojokkmfbmaaGreatDoorTie
import Derived.SevenTiedAt
import Derived.LaidMore
import Derived.LaidLaws
import Derived.LaidHandle
import Derived.JoinedOf
import Derived.Test.YtjjdojokkmfbmaaGreatDoorMFrame
import Derived.Test.YtjjdojokkmfbmaaGreatDoorMPlanIn
import Derived.Test.YtjjdojokkmfbmaaGreatDoorMAwake25
import Derived.Test.YtjjdojokkmfbmaaGreatDoorMTrks
import Derived.Test.YtjjdojokkmfbmaaGreatDoorMTrkPure
namespace Go.Proofs.YtjjdojokkmfbmaaGreatDoor
open Go.RowKit
set_option linter.unusedVariables false
set_option linter.unusedSimpArgs false
theorem mem_join {w W0 W' : World} {L B : List Box} (h : Mem w W0 L) (k : Mem W0 W' B) : Mem w W' (L ++ B) := by
  have h1 := mem_below h k.below
  refine ⟨h1.below, fun g cs t hm => ?_, ?_⟩
  · rcases List.mem_append.1 hm with hm | hm
    · exact h1.rows g cs t hm
    · have := k.rows g cs t hm
      exact ⟨Nat.le_trans h.below.size this.1, this.2⟩
  · rw [List.map_append, List.nodup_append]
    refine ⟨h.nodup, k.nodup, fun a ha b hb he => ?_⟩
    obtain ⟨⟨x1, x2, x3⟩, hx, e1⟩ := List.mem_map.1 ha
    obtain ⟨⟨y1, y2, y3⟩, hy, e2⟩ := List.mem_map.1 hb
    have q1 := h.lt hx
    have q2 := (k.rows y1 y2 y3 hy).1
    simp only at e1 e2
    omega
theorem ows_form {e : TypeId} {size : Nat} {v : Value} {n : Nat} {xs : List Value} {B : List Box} (h : Ows e size v n xs B) : ∃ S cap, v = .slice S n cap := by
  cases h with
  | nil => exact ⟨none, 0, rfl⟩
  | @row g cap n cur xs _ _ _ _ _ => exact ⟨_, cap, rfl⟩
theorem ows_row {e : TypeId} {size : Nat} {S : Option Addr} {n cap : Nat} {xs : List Value} {B : List Box} (h : Ows e size (.slice S n cap) n xs B) (hn : 0 < n) : ∃ g cur, S = some ⟨g, 0, none⟩ ∧ B = [(g, cur, e)] ∧ cur.take (n * size) = xs := by
  cases h with
  | nil => omega
  | row _ _ _ h4 _ => exact ⟨_, _, rfl, rfl, h4⟩
theorem usualAt_mem {w W : World} {L : List Box} (hM : Mem w W L) (h : usualAt w) : usualAt W := fun i n hi => hM.old (h i n hi)
set_option maxRecDepth 100000 in
set_option maxHeartbeats 8000000 in
theorem resolveOrder_walk {W : World} (pa pb : ByteArray) (S : Option Addr) (l : List En) (cap : Nat) (act : Int) (s0 s1 s2 s3 s4 s5 s6 s7 : Int) (ha : pa.size ≤ maxLen) (hb : pb.size ≤ maxLen) (hact : I64 act) (hp : Hid (entsAt W S l)) (hxs : Hid (∀ (k : Nat) (x : En), l[k]? = some x → EnX x)) (hs0 : I64 s0) (hs1 : I64 s1) (hs2 : I64 s2) (hs3 : I64 s3) (hs4 : I64 s4) (hs5 : I64 s5) (hs6 : I64 s6) (hs7 : I64 s7) (hL : laidMetH Tryz.prog laidL W) (w : World) (hw : w = W := by rfl) :
    Calls Tryz.prog 10 #[.agg #[.string pa, .string pb, .slice S l.length cap, .int .i64 act], .agg #[.int .i64 s0, .int .i64 s1, .int .i64 s2, .int .i64 s3, .int .i64 s4, .int .i64 s5, .int .i64 s6, .int .i64 s7]] w fun e w' => e = .returned (.bool true) ∧ Below w.heap.size w w' := by
  subst hw
  have hu := hide (uses_of hL)
  have hq := hide (usual_of hL)
  clear hL
  have PC := fun W h1 h2 => check_any pa pb S l cap act W ha hb h1 hxs h2
  have TR := fun W h1 h2 => tracks_any pa pb S l cap act s0 s1 s2 s4 s5 s6 s7 W ha hb h1 hxs hs2 hs6 h2
  obtain ⟨ts, idx, er, hR⟩ : ∃ ts idx er, tracksF pa pb l act s0 s1 s2 s4 s5 s6 s7 = (ts, idx, er) := ⟨_, _, _, rfl⟩
  obtain ⟨E0, hE⟩ : ∃ E0, planF pa pb l act = E0 := ⟨_, rfl⟩
  rw [hR] at TR
  rw [hE] at PC
  dsimp only at TR
  by_cases h0 : E0 = 0
  rotate_left 1
  · have h1 := tracksF_err (pa := pa) (pb := pb) (l := l) (act := act) (fx := s0) (fy := s1) (c := s2) (spd := s4) (bank := s5) (oalt := s6) (gr := s7) (by rw [hE]; exact h0)
    rw [hR, hE] at h1
    injection h1 with e1 e2
    injection e2 with e2 e3
    obtain rfl := e1.symm
    obtain rfl := e2.symm
    obtain rfl := e3
    have hne : (er != 0) = true := by simpa using h0
    have heq : (er == 0) = false := by simpa using h0
    clear hR hE h0
    have hM := mem_nil w
    go_enter Tryz.func10, Tryz.ntmps10
    go_upto_region 0 with (first
        | ((with_reducible refine at_ldx ?_); refine' mg_load1 hM rfl rfl ?_ ?_ ?_ ?_ ?_; rotate_left 3; (· first | exact rfl | (go_simp; done)); (· repeat constructor); (· exact Tryz.isAgg52); (· exact rfl))
        | ((with_reducible refine at_ldx ?_); refine' mg_load1 hM rfl rfl ?_ ?_ ?_ ?_ ?_; rotate_left 3; (· first | exact rfl | (go_simp; done)); (· repeat constructor); (· exact scT rfl); (· exact rfl))
        | ((with_reducible refine at_ldx ?_); refine' mg_load hM rfl rfl ?_ ?_ ?_ ?_ ?_ ?_; rotate_left 4; (· first | exact rfl | (go_simp; done)); (· repeat constructor); (· exact agT rfl); (· exact szT rfl); (· repeat constructor))
        | ((with_reducible refine at_stx ?_); refine' ms_store hM rfl rfl rfl ?_ ?_ ?_ ?_ ?_ ?_ ?_ ?_; rotate_left 6; (· constructor); (· repeat constructor); (· repeat constructor); (· repeat constructor); (· exact szT rfl); (· rfl); (· exact onecells rfl); (clear hM; intro W hM))
        | ((with_reducible refine at_bxx ?_); refine' mp_box hM rfl rfl ?_ ?_; rotate_left 1; (· constructor); (clear hM; intro g W hM))
        | ((with_reducible refine at_alx ?_); refine' mp_alloc hM rfl rfl ?_ rfl ?_; rotate_left 1; (· exact zoT rfl); (clear hM; intro g W hM)))
    go_cut [2, 3] (fun t2 t3 wx => ∃ gP gS, t2 = .pointer (some ⟨gP, 0, none⟩) ∧ t3 = .pointer (some ⟨gS, 0, none⟩) ∧ Mem w wx [(gS, [.int .i64 s0, .int .i64 s1, .int .i64 s2, .int .i64 s3, .int .i64 s4, .int .i64 s5, .int .i64 s6, .int .i64 s7], 31), (gP, [.string pa, .string pb, .slice S l.length cap, .int .i64 act], 54)])
    case first =>
      go_wp2_with (first
        | ((with_reducible refine at_ldx ?_); refine' mg_load1 hM rfl rfl ?_ ?_ ?_ ?_ ?_; rotate_left 3; (· first | exact rfl | (go_simp; done)); (· repeat constructor); (· exact Tryz.isAgg52); (· exact rfl))
        | ((with_reducible refine at_ldx ?_); refine' mg_load1 hM rfl rfl ?_ ?_ ?_ ?_ ?_; rotate_left 3; (· first | exact rfl | (go_simp; done)); (· repeat constructor); (· exact scT rfl); (· exact rfl))
        | ((with_reducible refine at_ldx ?_); refine' mg_load hM rfl rfl ?_ ?_ ?_ ?_ ?_ ?_; rotate_left 4; (· first | exact rfl | (go_simp; done)); (· repeat constructor); (· exact agT rfl); (· exact szT rfl); (· repeat constructor))
        | ((with_reducible refine at_stx ?_); refine' ms_store hM rfl rfl rfl ?_ ?_ ?_ ?_ ?_ ?_ ?_ ?_; rotate_left 6; (· constructor); (· repeat constructor); (· repeat constructor); (· repeat constructor); (· exact szT rfl); (· rfl); (· exact onecells rfl); (clear hM; intro W hM))
        | ((with_reducible refine at_bxx ?_); refine' mp_box hM rfl rfl ?_ ?_; rotate_left 1; (· constructor); (clear hM; intro g W hM))
        | ((with_reducible refine at_alx ?_); refine' mp_alloc hM rfl rfl ?_ rfl ?_; rotate_left 1; (· exact zoT rfl); (clear hM; intro g W hM)))
      all_goals
        go_meet
        exact ⟨_, _, rfl, rfl, hM⟩
    case rest =>
    clear hM
    obtain ⟨gP, gS, rfl, rfl, hM⟩ := hcut
    go_wp2_with (first
      | (go_at_call 11; (with_reducible refine (awake25_any _ (hide (usesAt_mem hM hu.out)) (hide (usualAt_mem hM hq.out))).mono ?_); rintro e W1 ⟨rfl, hb⟩; replace hM := mem_below hM hb; clear hb)
      | (go_at_call 18; (with_reducible refine (TR _ (hide (entsAt_old hM hp.out)) (hide (usesAt_mem hM hu.out))).mono ?_); rintro e W1 ⟨V, B, rfl, hO, hB⟩; replace hM := mem_join hM hB; clear hB; simp only [List.cons_append, List.nil_append] at hM; obtain ⟨SV, capV, hVV⟩ := ows_form hO; subst hVV; have HO := hide hO; clear hO)
      | (go_at_call 22; (with_reducible refine (PC _ (hide (entsAt_old hM hp.out)) (hide (usesAt_mem hM hu.out))).mono ?_); rintro e W1 ⟨rfl, hb⟩; replace hM := mem_below hM hb; clear hb)
      | ((with_reducible refine at_ldx ?_); refine' mg_load1 hM rfl rfl ?_ ?_ ?_ ?_ ?_; rotate_left 3; (· first | exact rfl | (go_simp; done)); (· repeat constructor); (· exact Tryz.isAgg52); (· exact rfl))
      | ((with_reducible refine at_ldx ?_); refine' mg_load1 hM rfl rfl ?_ ?_ ?_ ?_ ?_; rotate_left 3; (· first | exact rfl | (go_simp; done)); (· repeat constructor); (· exact scT rfl); (· exact rfl))
      | ((with_reducible refine at_ldx ?_); refine' mg_load hM rfl rfl ?_ ?_ ?_ ?_ ?_ ?_; rotate_left 4; (· first | exact rfl | (go_simp; done)); (· repeat constructor); (· exact agT rfl); (· exact szT rfl); (· repeat constructor))
      | ((with_reducible refine at_stx ?_); refine' ms_store hM rfl rfl rfl ?_ ?_ ?_ ?_ ?_ ?_ ?_ ?_; rotate_left 6; (· constructor); (· repeat constructor); (· repeat constructor); (· repeat constructor); (· exact szT rfl); (· rfl); (· exact onecells rfl); (clear hM; intro W hM))
      | ((with_reducible refine at_bxx ?_); refine' mp_box hM rfl rfl ?_ ?_; rotate_left 1; (· constructor); (clear hM; intro g W hM))
      | ((with_reducible refine at_alx ?_); refine' mp_alloc hM rfl rfl ?_ rfl ?_; rotate_left 1; (· exact zoT rfl); (clear hM; intro g W hM)))
    all_goals
      go_ret
      exact ⟨rfl, hM.below⟩
  subst h0
  by_cases he : er = 0
  rotate_left 1
  · obtain ⟨h1, h2⟩ := tracksF_bad (fx := s0) (fy := s1) (c := s2) (spd := s4) (bank := s5) (oalt := s6) (gr := s7) hE (by rw [hR]; exact he)
    rw [hR] at h1 h2
    dsimp only at h1 h2
    obtain rfl := h1
    have hne : (er != 0) = true := by simpa using he
    have heq : (er == 0) = false := by simpa using he
    clear hR hE he
    have h3 : idx = 0 ∨ ∃ (n : Nat) (x : En), idx = (n : Int) ∧ 0 < n ∧ l[n]? = some x ∧ x.gap = false := by
      rcases h2 with h2 | ⟨n, x, h2, h3, h4⟩
      · exact .inl h2
      · rcases Nat.eq_zero_or_pos n with h5 | h5
        · exact .inl (by rw [h2, h5]; rfl)
        · exact .inr ⟨n, x, h2, h5, h3, h4⟩
    clear h2
    rcases h3 with rfl | ⟨n, x, rfl, hn0, hx, hg⟩
    · (
      have hM := mem_nil w
      go_enter Tryz.func10, Tryz.ntmps10
      go_upto_region 0 with (first
          | ((with_reducible refine at_ldx ?_); refine' mg_load1 hM rfl rfl ?_ ?_ ?_ ?_ ?_; rotate_left 3; (· first | exact rfl | (go_simp; done)); (· repeat constructor); (· exact Tryz.isAgg52); (· exact rfl))
          | ((with_reducible refine at_ldx ?_); refine' mg_load1 hM rfl rfl ?_ ?_ ?_ ?_ ?_; rotate_left 3; (· first | exact rfl | (go_simp; done)); (· repeat constructor); (· exact scT rfl); (· exact rfl))
          | ((with_reducible refine at_ldx ?_); refine' mg_load hM rfl rfl ?_ ?_ ?_ ?_ ?_ ?_; rotate_left 4; (· first | exact rfl | (go_simp; done)); (· repeat constructor); (· exact agT rfl); (· exact szT rfl); (· repeat constructor))
          | ((with_reducible refine at_stx ?_); refine' ms_store hM rfl rfl rfl ?_ ?_ ?_ ?_ ?_ ?_ ?_ ?_; rotate_left 6; (· constructor); (· repeat constructor); (· repeat constructor); (· repeat constructor); (· exact szT rfl); (· rfl); (· exact onecells rfl); (clear hM; intro W hM))
          | ((with_reducible refine at_bxx ?_); refine' mp_box hM rfl rfl ?_ ?_; rotate_left 1; (· constructor); (clear hM; intro g W hM))
          | ((with_reducible refine at_alx ?_); refine' mp_alloc hM rfl rfl ?_ rfl ?_; rotate_left 1; (· exact zoT rfl); (clear hM; intro g W hM)))
      go_cut [2, 3] (fun t2 t3 wx => ∃ gP gS, t2 = .pointer (some ⟨gP, 0, none⟩) ∧ t3 = .pointer (some ⟨gS, 0, none⟩) ∧ Mem w wx [(gS, [.int .i64 s0, .int .i64 s1, .int .i64 s2, .int .i64 s3, .int .i64 s4, .int .i64 s5, .int .i64 s6, .int .i64 s7], 31), (gP, [.string pa, .string pb, .slice S l.length cap, .int .i64 act], 54)])
      case first =>
        go_wp2_with (first
          | ((with_reducible refine at_ldx ?_); refine' mg_load1 hM rfl rfl ?_ ?_ ?_ ?_ ?_; rotate_left 3; (· first | exact rfl | (go_simp; done)); (· repeat constructor); (· exact Tryz.isAgg52); (· exact rfl))
          | ((with_reducible refine at_ldx ?_); refine' mg_load1 hM rfl rfl ?_ ?_ ?_ ?_ ?_; rotate_left 3; (· first | exact rfl | (go_simp; done)); (· repeat constructor); (· exact scT rfl); (· exact rfl))
          | ((with_reducible refine at_ldx ?_); refine' mg_load hM rfl rfl ?_ ?_ ?_ ?_ ?_ ?_; rotate_left 4; (· first | exact rfl | (go_simp; done)); (· repeat constructor); (· exact agT rfl); (· exact szT rfl); (· repeat constructor))
          | ((with_reducible refine at_stx ?_); refine' ms_store hM rfl rfl rfl ?_ ?_ ?_ ?_ ?_ ?_ ?_ ?_; rotate_left 6; (· constructor); (· repeat constructor); (· repeat constructor); (· repeat constructor); (· exact szT rfl); (· rfl); (· exact onecells rfl); (clear hM; intro W hM))
          | ((with_reducible refine at_bxx ?_); refine' mp_box hM rfl rfl ?_ ?_; rotate_left 1; (· constructor); (clear hM; intro g W hM))
          | ((with_reducible refine at_alx ?_); refine' mp_alloc hM rfl rfl ?_ rfl ?_; rotate_left 1; (· exact zoT rfl); (clear hM; intro g W hM)))
        all_goals
          go_meet
          exact ⟨_, _, rfl, rfl, hM⟩
      case rest =>
      clear hM
      obtain ⟨gP, gS, rfl, rfl, hM⟩ := hcut
      go_wp2_with (first
      | (go_at_call 11; (with_reducible refine (awake25_any _ (hide (usesAt_mem hM hu.out)) (hide (usualAt_mem hM hq.out))).mono ?_); rintro e W1 ⟨rfl, hb⟩; replace hM := mem_below hM hb; clear hb)
      | (go_at_call 18; (with_reducible refine (TR _ (hide (entsAt_old hM hp.out)) (hide (usesAt_mem hM hu.out))).mono ?_); rintro e W1 ⟨V, B, rfl, hO, hB⟩; replace hM := mem_join hM hB; clear hB; simp only [List.cons_append, List.nil_append] at hM; obtain ⟨SV, capV, hVV⟩ := ows_form hO; subst hVV; have HO := hide hO; clear hO)
      | (go_at_call 22; (with_reducible refine (PC _ (hide (entsAt_old hM hp.out)) (hide (usesAt_mem hM hu.out))).mono ?_); rintro e W1 ⟨rfl, hb⟩; replace hM := mem_below hM hb; clear hb)
      | ((with_reducible refine at_ldx ?_); refine' mg_load1 hM rfl rfl ?_ ?_ ?_ ?_ ?_; rotate_left 3; (· first | exact rfl | (go_simp; done)); (· repeat constructor); (· exact Tryz.isAgg52); (· exact rfl))
      | ((with_reducible refine at_ldx ?_); refine' mg_load1 hM rfl rfl ?_ ?_ ?_ ?_ ?_; rotate_left 3; (· first | exact rfl | (go_simp; done)); (· repeat constructor); (· exact scT rfl); (· exact rfl))
      | ((with_reducible refine at_ldx ?_); refine' mg_load hM rfl rfl ?_ ?_ ?_ ?_ ?_ ?_; rotate_left 4; (· first | exact rfl | (go_simp; done)); (· repeat constructor); (· exact agT rfl); (· exact szT rfl); (· repeat constructor))
      | ((with_reducible refine at_stx ?_); refine' ms_store hM rfl rfl rfl ?_ ?_ ?_ ?_ ?_ ?_ ?_ ?_; rotate_left 6; (· constructor); (· repeat constructor); (· repeat constructor); (· repeat constructor); (· exact szT rfl); (· rfl); (· exact onecells rfl); (clear hM; intro W hM))
      | ((with_reducible refine at_bxx ?_); refine' mp_box hM rfl rfl ?_ ?_; rotate_left 1; (· constructor); (clear hM; intro g W hM))
      | ((with_reducible refine at_alx ?_); refine' mp_alloc hM rfl rfl ?_ rfl ?_; rotate_left 1; (· exact zoT rfl); (clear hM; intro g W hM)))
      all_goals
        go_ret
        exact ⟨rfl, hM.below⟩)
    · obtain ⟨b, o, rfl, hat⟩ := hp.out n x hx
      have hyg := ent_gap hat
      rw [hg] at hyg
      have n1 : (n : Int) < (l.length : Int) := by
        have := (List.getElem?_eq_some_iff.1 hx).1
        omega
      have n2 : ((n : Int) == 0) = false := by simp; omega
      have n3 : ¬ ((n : Int) = 0) := by omega
      clear hat hx hg
      (
      have hM := mem_nil w
      go_enter Tryz.func10, Tryz.ntmps10
      go_upto_region 0 with (first
          | ((with_reducible refine at_ldx ?_); refine' mg_load1 hM rfl rfl ?_ ?_ ?_ ?_ ?_; rotate_left 3; (· first | exact rfl | (go_simp; done)); (· repeat constructor); (· exact Tryz.isAgg52); (· exact rfl))
          | ((with_reducible refine at_ldx ?_); refine' mg_load1 hM rfl rfl ?_ ?_ ?_ ?_ ?_; rotate_left 3; (· first | exact rfl | (go_simp; done)); (· repeat constructor); (· exact scT rfl); (· exact rfl))
          | ((with_reducible refine at_ldx ?_); refine' mg_load hM rfl rfl ?_ ?_ ?_ ?_ ?_ ?_; rotate_left 4; (· first | exact rfl | (go_simp; done)); (· repeat constructor); (· exact agT rfl); (· exact szT rfl); (· repeat constructor))
          | ((with_reducible refine at_stx ?_); refine' ms_store hM rfl rfl rfl ?_ ?_ ?_ ?_ ?_ ?_ ?_ ?_; rotate_left 6; (· constructor); (· repeat constructor); (· repeat constructor); (· repeat constructor); (· exact szT rfl); (· rfl); (· exact onecells rfl); (clear hM; intro W hM))
          | ((with_reducible refine at_bxx ?_); refine' mp_box hM rfl rfl ?_ ?_; rotate_left 1; (· constructor); (clear hM; intro g W hM))
          | ((with_reducible refine at_alx ?_); refine' mp_alloc hM rfl rfl ?_ rfl ?_; rotate_left 1; (· exact zoT rfl); (clear hM; intro g W hM)))
      go_cut [2, 3] (fun t2 t3 wx => ∃ gP gS, t2 = .pointer (some ⟨gP, 0, none⟩) ∧ t3 = .pointer (some ⟨gS, 0, none⟩) ∧ Mem w wx [(gS, [.int .i64 s0, .int .i64 s1, .int .i64 s2, .int .i64 s3, .int .i64 s4, .int .i64 s5, .int .i64 s6, .int .i64 s7], 31), (gP, [.string pa, .string pb, .slice (some ⟨b, o, none⟩) l.length cap, .int .i64 act], 54)])
      case first =>
        go_wp2_with (first
          | ((with_reducible refine at_ldx ?_); refine' mg_load1 hM rfl rfl ?_ ?_ ?_ ?_ ?_; rotate_left 3; (· first | exact rfl | (go_simp; done)); (· repeat constructor); (· exact Tryz.isAgg52); (· exact rfl))
          | ((with_reducible refine at_ldx ?_); refine' mg_load1 hM rfl rfl ?_ ?_ ?_ ?_ ?_; rotate_left 3; (· first | exact rfl | (go_simp; done)); (· repeat constructor); (· exact scT rfl); (· exact rfl))
          | ((with_reducible refine at_ldx ?_); refine' mg_load hM rfl rfl ?_ ?_ ?_ ?_ ?_ ?_; rotate_left 4; (· first | exact rfl | (go_simp; done)); (· repeat constructor); (· exact agT rfl); (· exact szT rfl); (· repeat constructor))
          | ((with_reducible refine at_stx ?_); refine' ms_store hM rfl rfl rfl ?_ ?_ ?_ ?_ ?_ ?_ ?_ ?_; rotate_left 6; (· constructor); (· repeat constructor); (· repeat constructor); (· repeat constructor); (· exact szT rfl); (· rfl); (· exact onecells rfl); (clear hM; intro W hM))
          | ((with_reducible refine at_bxx ?_); refine' mp_box hM rfl rfl ?_ ?_; rotate_left 1; (· constructor); (clear hM; intro g W hM))
          | ((with_reducible refine at_alx ?_); refine' mp_alloc hM rfl rfl ?_ rfl ?_; rotate_left 1; (· exact zoT rfl); (clear hM; intro g W hM)))
        all_goals
          go_meet
          exact ⟨_, _, rfl, rfl, hM⟩
      case rest =>
      clear hM
      obtain ⟨gP, gS, rfl, rfl, hM⟩ := hcut
      go_wp2_with (first
      | (go_at_call 11; (with_reducible refine (awake25_any _ (hide (usesAt_mem hM hu.out)) (hide (usualAt_mem hM hq.out))).mono ?_); rintro e W1 ⟨rfl, hb⟩; replace hM := mem_below hM hb; clear hb)
      | (go_at_call 18; (with_reducible refine (TR _ (hide (entsAt_old hM hp.out)) (hide (usesAt_mem hM hu.out))).mono ?_); rintro e W1 ⟨V, B, rfl, hO, hB⟩; replace hM := mem_join hM hB; clear hB; simp only [List.cons_append, List.nil_append] at hM; obtain ⟨SV, capV, hVV⟩ := ows_form hO; subst hVV; have HO := hide hO; clear hO)
      | (go_at_call 22; (with_reducible refine (PC _ (hide (entsAt_old hM hp.out)) (hide (usesAt_mem hM hu.out))).mono ?_); rintro e W1 ⟨rfl, hb⟩; replace hM := mem_below hM hb; clear hb)
      | ((with_reducible refine at_ldx ?_); refine mq_old1 hM rfl (by first | exact rfl | (go_simp; done)) rfl (scT rfl) hyg ?_)
      | ((with_reducible refine at_ldx ?_); refine' mg_load1 hM rfl rfl ?_ ?_ ?_ ?_ ?_; rotate_left 3; (· first | exact rfl | (go_simp; done)); (· repeat constructor); (· exact Tryz.isAgg52); (· exact rfl))
      | ((with_reducible refine at_ldx ?_); refine' mg_load1 hM rfl rfl ?_ ?_ ?_ ?_ ?_; rotate_left 3; (· first | exact rfl | (go_simp; done)); (· repeat constructor); (· exact scT rfl); (· exact rfl))
      | ((with_reducible refine at_ldx ?_); refine' mg_load hM rfl rfl ?_ ?_ ?_ ?_ ?_ ?_; rotate_left 4; (· first | exact rfl | (go_simp; done)); (· repeat constructor); (· exact agT rfl); (· exact szT rfl); (· repeat constructor))
      | ((with_reducible refine at_stx ?_); refine' ms_store hM rfl rfl rfl ?_ ?_ ?_ ?_ ?_ ?_ ?_ ?_; rotate_left 6; (· constructor); (· repeat constructor); (· repeat constructor); (· repeat constructor); (· exact szT rfl); (· rfl); (· exact onecells rfl); (clear hM; intro W hM))
      | ((with_reducible refine at_bxx ?_); refine' mp_box hM rfl rfl ?_ ?_; rotate_left 1; (· constructor); (clear hM; intro g W hM))
      | ((with_reducible refine at_alx ?_); refine' mp_alloc hM rfl rfl ?_ rfl ?_; rotate_left 1; (· exact zoT rfl); (clear hM; intro g W hM)))
      all_goals
        go_ret
        exact ⟨rfl, hM.below⟩)
  subst he
  have HORD : Hid (Order (prevB l (beginN act) (beginN act)) (beginN act) (l.drop (beginN act)) (ts.drop 0)) := hide (by
    have h := tracksF_order (pa := pa) (pb := pb) (l := l) (act := act) (fx := s0) (fy := s1) (c := s2) (spd := s4) (bank := s5) (oalt := s6) (gr := s7) (by rw [hR])
    rw [hR] at h
    rw [List.drop_zero]
    exact h)
  obtain ⟨l60, hac⟩ := plan_ok hE
  have ht60 : ts.length ≤ 60 := by
    have h := order_len HORD.out
    simp at h
    omega
  obtain ⟨hbm0, hbl⟩ := begin_of hac
  have HBM := hide hbm0
  clear hR hE hac hbm0
  have hM := mem_nil w
  go_enter Tryz.func10, Tryz.ntmps10
  go_upto_region 0 with (first
      | ((with_reducible refine at_ldx ?_); refine' mg_load1 hM rfl rfl ?_ ?_ ?_ ?_ ?_; rotate_left 3; (· first | exact rfl | (go_simp; done)); (· repeat constructor); (· exact Tryz.isAgg52); (· exact rfl))
      | ((with_reducible refine at_ldx ?_); refine' mg_load1 hM rfl rfl ?_ ?_ ?_ ?_ ?_; rotate_left 3; (· first | exact rfl | (go_simp; done)); (· repeat constructor); (· exact scT rfl); (· exact rfl))
      | ((with_reducible refine at_ldx ?_); refine' mg_load hM rfl rfl ?_ ?_ ?_ ?_ ?_ ?_; rotate_left 4; (· first | exact rfl | (go_simp; done)); (· repeat constructor); (· exact agT rfl); (· exact szT rfl); (· repeat constructor))
      | ((with_reducible refine at_stx ?_); refine' ms_store hM rfl rfl rfl ?_ ?_ ?_ ?_ ?_ ?_ ?_ ?_; rotate_left 6; (· constructor); (· repeat constructor); (· repeat constructor); (· repeat constructor); (· exact szT rfl); (· rfl); (· exact onecells rfl); (clear hM; intro W hM))
      | ((with_reducible refine at_bxx ?_); refine' mp_box hM rfl rfl ?_ ?_; rotate_left 1; (· constructor); (clear hM; intro g W hM))
      | ((with_reducible refine at_alx ?_); refine' mp_alloc hM rfl rfl ?_ rfl ?_; rotate_left 1; (· exact zoT rfl); (clear hM; intro g W hM)))
  go_cut [2, 3] (fun t2 t3 wx => ∃ gP gS, t2 = .pointer (some ⟨gP, 0, none⟩) ∧ t3 = .pointer (some ⟨gS, 0, none⟩) ∧ Mem w wx [(gS, [.int .i64 s0, .int .i64 s1, .int .i64 s2, .int .i64 s3, .int .i64 s4, .int .i64 s5, .int .i64 s6, .int .i64 s7], 31), (gP, [.string pa, .string pb, .slice S l.length cap, .int .i64 act], 54)])
  case first =>
    go_wp2_with (first
      | ((with_reducible refine at_ldx ?_); refine' mg_load1 hM rfl rfl ?_ ?_ ?_ ?_ ?_; rotate_left 3; (· first | exact rfl | (go_simp; done)); (· repeat constructor); (· exact Tryz.isAgg52); (· exact rfl))
      | ((with_reducible refine at_ldx ?_); refine' mg_load1 hM rfl rfl ?_ ?_ ?_ ?_ ?_; rotate_left 3; (· first | exact rfl | (go_simp; done)); (· repeat constructor); (· exact scT rfl); (· exact rfl))
      | ((with_reducible refine at_ldx ?_); refine' mg_load hM rfl rfl ?_ ?_ ?_ ?_ ?_ ?_; rotate_left 4; (· first | exact rfl | (go_simp; done)); (· repeat constructor); (· exact agT rfl); (· exact szT rfl); (· repeat constructor))
      | ((with_reducible refine at_stx ?_); refine' ms_store hM rfl rfl rfl ?_ ?_ ?_ ?_ ?_ ?_ ?_ ?_; rotate_left 6; (· constructor); (· repeat constructor); (· repeat constructor); (· repeat constructor); (· exact szT rfl); (· rfl); (· exact onecells rfl); (clear hM; intro W hM))
      | ((with_reducible refine at_bxx ?_); refine' mp_box hM rfl rfl ?_ ?_; rotate_left 1; (· constructor); (clear hM; intro g W hM))
      | ((with_reducible refine at_alx ?_); refine' mp_alloc hM rfl rfl ?_ rfl ?_; rotate_left 1; (· exact zoT rfl); (clear hM; intro g W hM)))
    all_goals
      go_meet
      exact ⟨_, _, rfl, rfl, hM⟩
  case rest =>
  clear hM
  obtain ⟨gP, gS, rfl, rfl, hM⟩ := hcut
  go_upto_region 9 with (first
      | (go_at_call 11; (with_reducible refine (awake25_any _ (hide (usesAt_mem hM hu.out)) (hide (usualAt_mem hM hq.out))).mono ?_); rintro e W1 ⟨rfl, hb⟩; replace hM := mem_below hM hb; clear hb)
      | (go_at_call 18; (with_reducible refine (TR _ (hide (entsAt_old hM hp.out)) (hide (usesAt_mem hM hu.out))).mono ?_); rintro e W1 ⟨V, B, rfl, hO, hB⟩; replace hM := mem_join hM hB; clear hB; simp only [List.cons_append, List.nil_append] at hM; obtain ⟨SV, capV, hVV⟩ := ows_form hO; subst hVV; have HO := hide hO; clear hO)
      | (go_at_call 22; (with_reducible refine (PC _ (hide (entsAt_old hM hp.out)) (hide (usesAt_mem hM hu.out))).mono ?_); rintro e W1 ⟨rfl, hb⟩; replace hM := mem_below hM hb; clear hb)
      | ((with_reducible refine at_ldx ?_); refine' mg_load1 hM rfl rfl ?_ ?_ ?_ ?_ ?_; rotate_left 3; (· first | exact rfl | (go_simp; done)); (· repeat constructor); (· exact Tryz.isAgg52); (· exact rfl))
      | ((with_reducible refine at_ldx ?_); refine' mg_load1 hM rfl rfl ?_ ?_ ?_ ?_ ?_; rotate_left 3; (· first | exact rfl | (go_simp; done)); (· repeat constructor); (· exact scT rfl); (· exact rfl))
      | ((with_reducible refine at_ldx ?_); refine' mg_load hM rfl rfl ?_ ?_ ?_ ?_ ?_ ?_; rotate_left 4; (· first | exact rfl | (go_simp; done)); (· repeat constructor); (· exact agT rfl); (· exact szT rfl); (· repeat constructor))
      | ((with_reducible refine at_stx ?_); refine' ms_store hM rfl rfl rfl ?_ ?_ ?_ ?_ ?_ ?_ ?_ ?_; rotate_left 6; (· constructor); (· repeat constructor); (· repeat constructor); (· repeat constructor); (· exact szT rfl); (· rfl); (· exact onecells rfl); (clear hM; intro W hM))
      | ((with_reducible refine at_bxx ?_); refine' mp_box hM rfl rfl ?_ ?_; rotate_left 1; (· constructor); (clear hM; intro g W hM))
      | ((with_reducible refine at_alx ?_); refine' mp_alloc hM rfl rfl ?_ rfl ?_; rotate_left 1; (· exact zoT rfl); (clear hM; intro g W hM)))
  have hbm := HBM.out.symm
  go_wp2_with (first
      | (go_at_call 11; (with_reducible refine (awake25_any _ (hide (usesAt_mem hM hu.out)) (hide (usualAt_mem hM hq.out))).mono ?_); rintro e W1 ⟨rfl, hb⟩; replace hM := mem_below hM hb; clear hb)
      | (go_at_call 18; (with_reducible refine (TR _ (hide (entsAt_old hM hp.out)) (hide (usesAt_mem hM hu.out))).mono ?_); rintro e W1 ⟨V, B, rfl, hO, hB⟩; replace hM := mem_join hM hB; clear hB; simp only [List.cons_append, List.nil_append] at hM; obtain ⟨SV, capV, hVV⟩ := ows_form hO; subst hVV; have HO := hide hO; clear hO)
      | (go_at_call 22; (with_reducible refine (PC _ (hide (entsAt_old hM hp.out)) (hide (usesAt_mem hM hu.out))).mono ?_); rintro e W1 ⟨rfl, hb⟩; replace hM := mem_below hM hb; clear hb)
      | ((with_reducible refine at_ldx ?_); refine' mg_load1 hM rfl rfl ?_ ?_ ?_ ?_ ?_; rotate_left 3; (· first | exact rfl | (go_simp; done)); (· repeat constructor); (· exact Tryz.isAgg52); (· exact rfl))
      | ((with_reducible refine at_ldx ?_); refine' mg_load1 hM rfl rfl ?_ ?_ ?_ ?_ ?_; rotate_left 3; (· first | exact rfl | (go_simp; done)); (· repeat constructor); (· exact scT rfl); (· exact rfl))
      | ((with_reducible refine at_ldx ?_); refine' mg_load hM rfl rfl ?_ ?_ ?_ ?_ ?_ ?_; rotate_left 4; (· first | exact rfl | (go_simp; done)); (· repeat constructor); (· exact agT rfl); (· exact szT rfl); (· repeat constructor))
      | ((with_reducible refine at_stx ?_); refine' ms_store hM rfl rfl rfl ?_ ?_ ?_ ?_ ?_ ?_ ?_ ?_; rotate_left 6; (· constructor); (· repeat constructor); (· repeat constructor); (· repeat constructor); (· exact szT rfl); (· rfl); (· exact onecells rfl); (clear hM; intro W hM))
      | ((with_reducible refine at_bxx ?_); refine' mp_box hM rfl rfl ?_ ?_; rotate_left 1; (· constructor); (clear hM; intro g W hM))
      | ((with_reducible refine at_alx ?_); refine' mp_alloc hM rfl rfl ?_ rfl ?_; rotate_left 1; (· exact zoT rfl); (clear hM; intro g W hM)))
  go_loopw [8, 9] (fun a c W => ∃ (k j : Nat), a = .int .i64 (k : Int) ∧ c = .int .i64 (j : Int) ∧ k ≤ ts.length ∧ beginN act ≤ j ∧ j ≤ l.length ∧ Hid (Order (prevB l (beginN act) j) j (l.drop j) (ts.drop k)) ∧ Mem w W ((gS, [.int .i64 s0, .int .i64 s1, .int .i64 s2, .int .i64 s3, .int .i64 s4, .int .i64 s5, .int .i64 s6, .int .i64 s7], 31) :: (gP, [.string pa, .string pb, .slice S l.length cap, .int .i64 act], 54) :: B)) (fun _ c _ => l.length - (intOf c).toNat)
  case atStart => exact ⟨0, beginN act, rfl, by first | rfl | (rw [HBM.out]; done) | (rw [← HBM.out]; done), by omega, Nat.le_refl _, hbl, HORD, hM⟩
  case round =>
    clear hM HORD
    obtain ⟨k, j, rfl, rfl, hkl, hbj, hjl, HS, hM⟩ := hrel
    by_cases hlt : j < l.length
    · obtain ⟨x, hx⟩ : ∃ x, l[j]? = some x := ⟨_, List.getElem?_eq_getElem hlt⟩
      obtain ⟨b, o, rfl, hat⟩ := hp.out j x hx
      have hyg := ent_gap hat
      rcases order_step hx hbj HS.out with ⟨hg, hn⟩ | ⟨hg, t, ht, htn, htg, hn⟩
      · have HN := hide hn
        rw [hg] at hyg
        clear hn hat hx HS hg
        go_wp2_with (first
      | ((with_reducible refine at_ldx ?_); refine mq_old1 hM rfl (by first | exact rfl | (go_simp; done)) rfl (scT rfl) hyg ?_)
      | ((with_reducible refine at_ldx ?_); refine' mg_load1 hM rfl rfl ?_ ?_ ?_ ?_ ?_; rotate_left 3; (· first | exact rfl | (go_simp; done)); (· repeat constructor); (· exact Tryz.isAgg52); (· exact rfl))
      | ((with_reducible refine at_ldx ?_); refine' mg_load1 hM rfl rfl ?_ ?_ ?_ ?_ ?_; rotate_left 3; (· first | exact rfl | (go_simp; done)); (· repeat constructor); (· exact scT rfl); (· exact rfl))
      | ((with_reducible refine at_ldx ?_); refine' mg_load hM rfl rfl ?_ ?_ ?_ ?_ ?_ ?_; rotate_left 4; (· first | exact rfl | (go_simp; done)); (· repeat constructor); (· exact agT rfl); (· exact szT rfl); (· repeat constructor))
      | ((with_reducible refine at_stx ?_); refine' ms_store hM rfl rfl rfl ?_ ?_ ?_ ?_ ?_ ?_ ?_ ?_; rotate_left 6; (· constructor); (· repeat constructor); (· repeat constructor); (· repeat constructor); (· exact szT rfl); (· rfl); (· exact onecells rfl); (clear hM; intro W hM))
      | ((with_reducible refine at_bxx ?_); refine' mp_box hM rfl rfl ?_ ?_; rotate_left 1; (· constructor); (clear hM; intro g W hM))
      | ((with_reducible refine at_alx ?_); refine' mp_alloc hM rfl rfl ?_ rfl ?_; rotate_left 1; (· exact zoT rfl); (clear hM; intro g W hM)))
        all_goals
          go_roundw
          case rel => exact ⟨k, j + 1, rfl, by go_num, hkl, by omega, by omega, HN, hM⟩
          case measure => simp [intOf]; omega
      · have HN := hide hn
        rw [hg] at hyg
        have hkt := (List.getElem?_eq_some_iff.1 ht).1
        obtain ⟨g, cur, rfl, rfl, hcur⟩ := ows_row HO.out (by omega)
        have e13 : cur[k * 15 + 13]? = some (.int .i64 (j : Int)) := by
          have h := row_cell (i := 13) hcur ht (by decide) rfl
          rw [htn] at h
          exact h
        obtain ⟨Q, hQ⟩ : ∃ Q, gapQ (prevB l (beginN act) j) = Q := ⟨_, rfl⟩
        have e14 : cur[k * 15 + 14]? = some (.bool Q) := by
          have h := row_cell (i := 14) hcur ht (by decide) rfl
          rw [htg, hQ] at h
          exact h
        have hpre : (j ≤ beginN act ∧ Q = false) ∨ ∃ (i : Nat) (y : En), j = i + 1 ∧ beginN act < j ∧ Q = y.gap ∧ entAt w b (o + i * 20) y := by
          rcases Nat.eq_or_lt_of_le hbj with h0 | h0
          · refine .inl ⟨by omega, ?_⟩
            rw [← hQ]
            unfold prevB
            rw [if_pos h0.symm]
            rfl
          · obtain ⟨i, rfl⟩ : ∃ i, j = i + 1 := ⟨j - 1, by omega⟩
            obtain ⟨y, hy⟩ : ∃ y, l[i]? = some y := ⟨_, List.getElem?_eq_getElem (by omega)⟩
            obtain ⟨b2, o2, e, h2⟩ := hp.out i y hy
            injection e with e
            injection e with e1 e2
            subst e1 e2
            refine .inr ⟨i, y, rfl, h0, ?_, h2⟩
            rw [← hQ]
            unfold prevB
            rw [if_neg (by omega), Nat.add_sub_cancel, hy]
            rfl
        have kb : k ≤ 9223372036854775807 := by omega
        clear hn hat hx HS hg ht htn htg hQ hcur
        have HC := hide hpre
        clear hpre
        go_upto_region 13 with (first
      | ((with_reducible refine at_ldx ?_); refine mq_old1 hM rfl (by first | exact rfl | (go_simp; done)) rfl (scT rfl) hyg ?_)
      | ((with_reducible refine at_ldx ?_); refine' mg_load1 hM rfl rfl ?_ ?_ ?_ ?_ ?_; rotate_left 3; (· first | exact rfl | (go_simp; done)); (· repeat constructor); (· exact Tryz.isAgg52); (· exact rfl))
      | ((with_reducible refine at_ldx ?_); refine' mg_load1 hM rfl rfl ?_ ?_ ?_ ?_ ?_; rotate_left 3; (· first | exact rfl | (go_simp; done)); (· repeat constructor); (· exact scT rfl); (· exact rfl))
      | ((with_reducible refine at_ldx ?_); refine' mg_load hM rfl rfl ?_ ?_ ?_ ?_ ?_ ?_; rotate_left 4; (· first | exact rfl | (go_simp; done)); (· repeat constructor); (· exact agT rfl); (· exact szT rfl); (· repeat constructor))
      | ((with_reducible refine at_stx ?_); refine' ms_store hM rfl rfl rfl ?_ ?_ ?_ ?_ ?_ ?_ ?_ ?_; rotate_left 6; (· constructor); (· repeat constructor); (· repeat constructor); (· repeat constructor); (· exact szT rfl); (· rfl); (· exact onecells rfl); (clear hM; intro W hM))
      | ((with_reducible refine at_bxx ?_); refine' mp_box hM rfl rfl ?_ ?_; rotate_left 1; (· constructor); (clear hM; intro g W hM))
      | ((with_reducible refine at_alx ?_); refine' mp_alloc hM rfl rfl ?_ rfl ?_; rotate_left 1; (· exact zoT rfl); (clear hM; intro g W hM)))
        clear hyg
        try simp only [Act.put, List.setIfInBounds_toArray, List.set_cons_zero, List.set_cons_succ]
        go_cut [119] (fun s wx => s = .bool false ∧ Mem w wx ((gS, [.int .i64 s0, .int .i64 s1, .int .i64 s2, .int .i64 s3, .int .i64 s4, .int .i64 s5, .int .i64 s6, .int .i64 s7], 31) :: (gP, [.string pa, .string pb, .slice (some ⟨b, o, none⟩) l.length cap, .int .i64 act], 54) :: [(g, cur, 44)]))
        case first =>
          have c13 : wr.cell? ⟨g, k * 15 + 13, none⟩ = some (.int .i64 (j : Int)) := (hM.cell (Lk.tail (Lk.tail Lk.head)) _).trans e13
          have c14 : wr.cell? ⟨g, k * 15 + 14, none⟩ = some (.bool Q) := (hM.cell (Lk.tail (Lk.tail Lk.head)) _).trans e14
          have p3 : wr.cell? ⟨gP, 3, none⟩ = some (.int .i64 act) := hM.cell (Lk.tail Lk.head) 3
          have p2 : wr.cell? ⟨gP, 2, none⟩ = some (.slice (some ⟨b, o, none⟩) l.length cap) := hM.cell (Lk.tail Lk.head) 2
          have hbm := HBM.out.symm
          have k1 : ¬ ((ts.length : Int) ≤ (k : Int)) := by omega
          have k2 : ¬ (ts.length ≤ k) := by omega
          have k3 : (k : Int) < (ts.length : Int) := by omega
          rcases HC.out with ⟨hge, hq0⟩ | ⟨i, y, rfl, hgt, hq0, hy⟩
          · subst hq0
            have g1 : decide ((beginN act : Int) < (j : Int)) = false := decide_eq_false (by omega)
            have g2 : decide (beginN act < j) = false := decide_eq_false (by omega)
            clear e13 e14 HC
            go_quiet (fail)
            all_goals
              go_wp2_with fail
              all_goals
                go_meet
                exact ⟨by first | rfl | (simp; done), by first | exact hM | exact mem_drew hM | exact mem_drewN hM _ | exact mem_drew (mem_drew hM)⟩
          · subst hq0
            have hyg : wr.cell? ⟨b, o + i * 20, none⟩ = some (.bool y.gap) := hM.old (ent_gap hy)
            have ib : (i : Int) ≤ 60 := by omega
            have iw : IntKind.i64.wrap ((i : Int) + 1 - 1) = i := by rw [show (i : Int) + 1 - 1 = i by omega]; exact IntWalk.i64_in _ (by omega)
            have g1 : decide ((beginN act : Int) < (i : Int) + 1) = true := decide_eq_true (by omega)
            have g2 : decide (beginN act < i + 1) = true := decide_eq_true (by omega)
            clear e13 e14 HC hy
            go_quiet (fail)
            all_goals
              go_wp2_with fail
              all_goals
                go_meet
                exact ⟨by first | rfl | (simp; done), by first | exact hM | exact mem_drew hM | exact mem_drewN hM _ | exact mem_drew (mem_drew hM)⟩
        case rest =>
        clear hM
        obtain ⟨rfl, hM⟩ := hcut
        go_wp2_with (first
      | ((with_reducible refine at_ldx ?_); refine' mg_load1 hM rfl rfl ?_ ?_ ?_ ?_ ?_; rotate_left 3; (· first | exact rfl | (go_simp; done)); (· repeat constructor); (· exact Tryz.isAgg52); (· exact rfl))
      | ((with_reducible refine at_ldx ?_); refine' mg_load1 hM rfl rfl ?_ ?_ ?_ ?_ ?_; rotate_left 3; (· first | exact rfl | (go_simp; done)); (· repeat constructor); (· exact scT rfl); (· exact rfl))
      | ((with_reducible refine at_ldx ?_); refine' mg_load hM rfl rfl ?_ ?_ ?_ ?_ ?_ ?_; rotate_left 4; (· first | exact rfl | (go_simp; done)); (· repeat constructor); (· exact agT rfl); (· exact szT rfl); (· repeat constructor))
      | ((with_reducible refine at_stx ?_); refine' ms_store hM rfl rfl rfl ?_ ?_ ?_ ?_ ?_ ?_ ?_ ?_; rotate_left 6; (· constructor); (· repeat constructor); (· repeat constructor); (· repeat constructor); (· exact szT rfl); (· rfl); (· exact onecells rfl); (clear hM; intro W hM))
      | ((with_reducible refine at_bxx ?_); refine' mp_box hM rfl rfl ?_ ?_; rotate_left 1; (· constructor); (clear hM; intro g W hM))
      | ((with_reducible refine at_alx ?_); refine' mp_alloc hM rfl rfl ?_ rfl ?_; rotate_left 1; (· exact zoT rfl); (clear hM; intro g W hM)))
        all_goals
          go_roundw
          case rel => exact ⟨k + 1, j + 1, by go_num, by go_num, by omega, by omega, by omega, HN, hM⟩
          case measure => simp [intOf]; omega
    · obtain rfl := order_end (by omega) HS.out hkl
      go_wp2_with (first
      | ((with_reducible refine at_ldx ?_); refine' mg_load1 hM rfl rfl ?_ ?_ ?_ ?_ ?_; rotate_left 3; (· first | exact rfl | (go_simp; done)); (· repeat constructor); (· exact Tryz.isAgg52); (· exact rfl))
      | ((with_reducible refine at_ldx ?_); refine' mg_load1 hM rfl rfl ?_ ?_ ?_ ?_ ?_; rotate_left 3; (· first | exact rfl | (go_simp; done)); (· repeat constructor); (· exact scT rfl); (· exact rfl))
      | ((with_reducible refine at_ldx ?_); refine' mg_load hM rfl rfl ?_ ?_ ?_ ?_ ?_ ?_; rotate_left 4; (· first | exact rfl | (go_simp; done)); (· repeat constructor); (· exact agT rfl); (· exact szT rfl); (· repeat constructor))
      | ((with_reducible refine at_stx ?_); refine' ms_store hM rfl rfl rfl ?_ ?_ ?_ ?_ ?_ ?_ ?_ ?_; rotate_left 6; (· constructor); (· repeat constructor); (· repeat constructor); (· repeat constructor); (· exact szT rfl); (· rfl); (· exact onecells rfl); (clear hM; intro W hM))
      | ((with_reducible refine at_bxx ?_); refine' mp_box hM rfl rfl ?_ ?_; rotate_left 1; (· constructor); (clear hM; intro g W hM))
      | ((with_reducible refine at_alx ?_); refine' mp_alloc hM rfl rfl ?_ rfl ?_; rotate_left 1; (· exact zoT rfl); (clear hM; intro g W hM)))
      all_goals
        go_ret
        exact ⟨rfl, hM.below⟩
end Go.Proofs.YtjjdojokkmfbmaaGreatDoor
namespace Go.Proofs.YtjjdojokkmfbmaaGreatDoor.resolveOrder
open Go.ChangeShapes Go.WideShapes Go.ChangeAt Go.RowKit
set_option linter.unusedVariables false

theorem own : ownKnob Tryz.prog.godebug = none := by kernel_rfl
theorem laidOut : laidOutB Tryz.prog = true := pf_laid
theorem typed : (Tryz.f10.params.toList.all fun t => Tryz.prog.readableRec t && decide (t < Tryz.prog.types.size)) = true := by kernel_rfl
theorem typed' : ∀ t ∈ Tryz.f10.params.toList, Tryz.prog.readableRec t = true ∧ t < Tryz.prog.types.size := by
  intro t ht
  have h := List.all_eq_true.1 typed t ht
  simpa using h
theorem ct54 : Tryz.prog.cellTypes Tryz.prog.depth 54 = some [9, 9, 52, 3] := by kernel_rfl
theorem cn54 : Tryz.prog.cellsOf 54 = ([9, 9, 52, 3] : List TypeId).length := by kernel_rfl
theorem ct31 : Tryz.prog.cellTypes Tryz.prog.depth 31 = some (List.replicate 8 2) := by kernel_rfl
theorem cn31 : Tryz.prog.cellsOf 31 = (List.replicate 8 2).length := by kernel_rfl
set_option maxRecDepth 100000 in
theorem lifted (os : Os) (started : os.Started) (H : Type) (enc : TypeId × Value → H) :
    ReturnsInHanded {} Tryz.checked os 10 .any (fun w args => (Rows.resolveOrderSpec.pre enc Tryz.prog Tryz.f10 Rows.resolveOrderRow.domain false w args ∧ laidMetH Tryz.prog laidL w) ∧ sizedMet enc Tryz.prog Tryz.f10 (OpenSpec.ofChange Rows.resolveOrderSpec) false w args) (Rows.resolveOrderSpec.post enc Tryz.prog Tryz.f10 false true false false) := by
  refine returnsInHanded_of_change_and (C := Tryz.checked) (X := fun w _ => laidMetH Tryz.prog laidL w) (fun _ _ _ hh h => h.of_heap hh) own started (by kernel_rfl) Tryz.func10
    (ChangeSpec.witness_shaped (enc := enc) (C := Tryz.checked) (os := os) (X := fun w _ => laidMetH Tryz.prog laidL w) false (World.doorLaid Tryz.prog 400 os) #[.agg #[.string ⟨#[]⟩, .string ⟨#[]⟩, .slice none 0 0, .int .i64 0], .agg #[.int .i64 0, .int .i64 0, .int .i64 0, .int .i64 0, .int .i64 0, .int .i64 0, .int .i64 0, .int .i64 0]] 8 rfl (World.shaped_of_RefB (by kernel_rfl) (by kernel_rfl)) (by kernel_rfl) (by kernel_rfl) (by kernel_rfl) (door_met os _)) ?_
  intro W base args ds gs before hval0 hW hcnd _ hL _
  have hval : ∀ (j : Nat) t v, Tryz.f10.params[j]? = some t → args[j]? = some v → Value.okWide Tryz.prog W .any base t v := hval0
  have hW' := hW
  obtain ⟨p, q, hA0, hV, rfl, hfz, hnd⟩ := hW
  have hlen := trodAll_length _ _ _ _ hA0
  rw [Tryz.params10] at hval hlen
  obtain ⟨v0, v1, rfl⟩ := arr2 hlen.1
  obtain ⟨d0, d1, rfl⟩ := list2 hlen.2
  obtain ⟨lp, rfl, ep, hlp⟩ := ok_agg (Or.inl ⟨_, Tryz.underlying54⟩) ct54 cn54 (hval 0 54 v0 rfl rfl)
  obtain ⟨pc0, pc1, pc2, pc3, rfl⟩ := list4 (ep.trans (by rfl))
  have hA' := hA0
  rw [Tryz.params10] at hA'
  obtain ⟨_, _, hTp, _⟩ := hA'
  obtain ⟨pA, pB, pS, pl, pcap, pact, hpv, hpA, hpB, hpn, hpact, hpp, hpx⟩ := plan_in hTp ⟨pc0, pc1, pc2, pc3, rfl⟩
  obtain ⟨rfl, rfl, rfl, rfl⟩ : pc0 = .string pA ∧ pc1 = .string pB ∧ pc2 = .slice pS pl.length pcap ∧ pc3 = .int .i64 pact := by simpa using hpv
  obtain ⟨ls, rfl, es, hls⟩ := ok_ints (Or.inl ⟨_, Tryz.underlying31⟩) ct31 cn31 (fun u hu => by rw [List.eq_of_mem_replicate hu]; exact Tryz.underlying2) (hval 1 31 v1 rfl rfl)
  obtain ⟨s0, s1, s2, s3, s4, s5, s6, s7, rfl⟩ := list8 (es.trans (by simp))
  have hs0 : I64 s0 := hls _ (by simp)
  have hs1 : I64 s1 := hls _ (by simp)
  have hs2 : I64 s2 := hls _ (by simp)
  have hs3 : I64 s3 := hls _ (by simp)
  have hs4 : I64 s4 := hls _ (by simp)
  have hs5 : I64 s5 := hls _ (by simp)
  have hs6 : I64 s6 := hls _ (by simp)
  have hs7 : I64 s7 := hls _ (by simp)
  refine (resolveOrder_walk pA pB pS pl pcap pact s0 s1 s2 s3 s4 s5 s6 s7 hpA hpB hpact (hide hpp) (hide hpx) hs0 hs1 hs2 hs3 hs4 hs5 hs6 hs7 hL W).mono fun e W' ⟨he, hb⟩ => ?_
  subst he
  exact ⟨_, rfl, law_post (f := Tryz.f10) (s := Rows.resolveOrderSpec) (tb := 4) laidOut typed' rfl (by kernel_rfl) Tryz.underlying4 hW' ⟨rfl, rfl, rfl⟩ hb⟩

theorem k0 : (Rows.resolveOrderRow.wf (OpenSpec.ofChange Rows.resolveOrderSpec)) = true := by kernel_rfl
theorem k3 : (Tryz.f10.params.all (Tryz.prog.readableRec ·)) = true := by kernel_rfl
theorem k4 : (namedTie Tryz.prog Rows.resolveOrderRow.named Rows.resolveOrderSpec.vars) = true := by kernel_rfl
theorem k5 : (Rows.resolveOrderRow.stops == []) = true := by kernel_rfl
theorem k7 : (Rows.resolveOrderRow.knobs == []) = true := by kernel_rfl
theorem k9 : (Rows.resolveOrderRow.inPlace == Tryz.prog.inPlace 10) = true := by kernel_rfl
theorem k10 : (Rows.resolveOrderRow.unfollowed == Tryz.prog.unfollowed 10) = true := by kernel_rfl
theorem k11 : (Rows.resolveOrderRow.recurses == Tryz.prog.recurses 10) = true := by kernel_rfl
theorem k12 : (Rows.resolveOrderRow.named == Tryz.prog.varsNamed 10) = true := by kernel_rfl
theorem k13 : (Rows.resolveOrderRow.maps == (Tryz.f10.params.toList ++ Rows.resolveOrderSpec.plain.varTypes Tryz.prog).any (Tryz.prog.mapsRec ·)) = true := by kernel_rfl
theorem k14 : (Rows.resolveOrderRow.ifaces == (Tryz.f10.params.toList ++ Rows.resolveOrderSpec.plain.varTypes Tryz.prog).any (Tryz.prog.ifacesRec ·)) = true := by kernel_rfl
theorem k15 : (Rows.resolveOrderRow.mapsOut == Tryz.prog.mapsAmong Tryz.f10.resultTypes.toList) = true := by kernel_rfl
theorem k16 : (Rows.resolveOrderRow.loops == (Tryz.f10.params.toList ++ Rows.resolveOrderSpec.plain.varTypes Tryz.prog).any (Tryz.prog.loopsFrom ·)) = true := by kernel_rfl
theorem k17 : (Rows.resolveOrderRow.wideKeys == (Tryz.f10.params.toList ++ Rows.resolveOrderSpec.plain.varTypes Tryz.prog ++ Tryz.f10.resultTypes.toList).any (Tryz.prog.wideKeysFrom ·)) = true := by kernel_rfl
theorem k18 : (Rows.resolveOrderSpec.vars.all (Tryz.prog.varReadable ·)) = true := by kernel_rfl
theorem k19 : (Tryz.f10.resultTypes.all (fun t => Tryz.prog.readableRec t && decide (t < Tryz.prog.types.size))) = true := by kernel_rfl
theorem k20 : (Rows.resolveOrderRow.ifacesOut == Tryz.f10.resultTypes.toList.any (Tryz.prog.ifacesRec ·)) = true := by kernel_rfl
theorem k21 : (Rows.resolveOrderRow.loopsOut == Tryz.f10.resultTypes.toList.any (Tryz.prog.loopsFrom ·)) = true := by kernel_rfl
theorem k22 : (Rows.resolveOrderRow.plainKeys == Tryz.prog.plainKeys) = true := by kernel_rfl
theorem k23 : (Rows.resolveOrderRow.shortTexts.isNone) = true := by kernel_rfl
theorem k26 : (Rows.resolveOrderRow.lifted == Tryz.prog.liftsFinal) = true := by rw [pf_lifts]; rfl
theorem k27 : (Tryz.prog.make == some Rows.resolveOrderRow.make) = true := by rw [pf_make]; rfl
theorem k28 : (Rows.resolveOrderRow.kinds == (if Rows.resolveOrderRow.domain.isEmpty then [] else Tryz.f10.params.toList.map fun t => match Tryz.prog.underlying t with | some (.int k) => some k | _ => none)) = true := by kernel_rfl
theorem k29 : (Rows.resolveOrderRow.pinned == Rows.resolveOrderRow.pinnedBy) = true := by kernel_rfl
theorem k30 : (Rows.resolveOrderRow.veiled == (Tryz.f10.params.toList ++ Rows.resolveOrderSpec.plain.varTypes Tryz.prog ++ Tryz.f10.resultTypes.toList).any (Tryz.prog.veiledRec ·)) = true := by kernel_rfl
theorem k31 : (Rows.resolveOrderRow.veiledFits Tryz.prog Tryz.f10.params.toList (Tryz.f10.params.toList ++ Rows.resolveOrderSpec.plain.varTypes Tryz.prog ++ Tryz.f10.resultTypes.toList)) = true := by kernel_rfl
set_option maxRecDepth 100000 in
theorem closed : joinedFacts Tryz.prog 10 Tryz.f10 Rows.resolveOrderSpec Rows.resolveOrderRow = true := (band (band (band (band (band (band (band (band (band (band (band (band (band (band (band (band (band (band (band (band (band (band (band (band (band (band (band (band (band (band (band k0 pf_laid) pf_maps) k3) k4) k5) pf_stops) k7) pf_knobs) k9) k10) k11) k12) k13) k14) k15) k16) k17) k18) k19) k20) k21) k22) k23) pf_heard) pf_enter) k26) k27) k28) k29) k30) k31)
theorem byName : Tryz.prog.funcNamed Rows.resolveOrderRow.func = some 10 := by kernel_rfl
theorem inst : Tryz.f10.isInstance Tryz.prog Rows.resolveOrderRow.origin Rows.resolveOrderRow.targs := of_decide_eq_true (by kernel_rfl)
theorem over : Rows.resolveOrderRow.holds Tryz.pinned (OpenSpec.ofChange Rows.resolveOrderSpec) :=
  OpenClaim.holds_of_wide 10 Tryz.f10 rfl rfl rfl rfl rfl rfl rfl ⟨rfl, rfl, rfl, rfl, rfl⟩ rfl rfl rfl rfl rfl byName Tryz.func10 closed
    inst (by unfold Func.isWrapper; rw [if_neg (of_decide_eq_false (by kernel_rfl))]; exact ⟨rfl, rfl⟩)
    (fun os started H enc _ => lifted os started H enc)

/-- The given statement: the tied card. -/
theorem proved : Rows.ResolveOrderCardSaid :=
  Claim7.holds_tied_plain_at .later [] [.data, .data] true Rows.resolveOrderCard.stood.harness false
    over (fun _ h => by cases h) (by kernel_rfl) (fun _ h => by cases h) resolveOrder_row_tie rfl ⟨rfl, rfl⟩ (by kernel_rfl) rfl
    (fun f fn hf hfn => by
      obtain rfl : f = 10 := Option.some.inj ((show Tryz.prog.funcNamed "flightdeck/flightdecklaw25.ResolveOrder" = some 10 by kernel_rfl).symm.trans hf) |>.symm
      obtain rfl : fn = Tryz.f10 := (Option.some.inj (Tryz.func10.symm.trans hfn)).symm
      exact ⟨by kernel_rfl, fun j t ht => by
        have hm : t ∈ Tryz.f10.params.toList := by simpa using Array.mem_of_getElem? ht
        have hall : (Tryz.f10.params.toList.all fun u => !Tryz.prog.wantsStandIn u) = true := by kernel_rfl
        exact (show Tryz.prog.wantsStandIn t = false by simpa using List.all_eq_true.1 hall t hm)⟩)
    (by kernel_rfl)
end Go.Proofs.YtjjdojokkmfbmaaGreatDoor.resolveOrder
