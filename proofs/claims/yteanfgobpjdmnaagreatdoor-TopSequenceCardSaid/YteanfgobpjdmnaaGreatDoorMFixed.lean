/-
  The walks of layer 1 (fixed): sizes, signs, scaled quotients, square roots: what each Go function computes.
-/
import Derived.Test.YteanfgobpjdmnaaGreatDoorMFrame
import Derived.Test.YteanfgobpjdmnaaGreatDoorMPlain
import Derived.Test.YteanfgobpjdmnaaGreatDoorMShelf
set_option maxRecDepth 100000
set_option maxHeartbeats 16000000
namespace Go.Proofs.YteanfgobpjdmnaaGreatDoor
open Go.RowKit
set_option linter.unusedVariables false
theorem hide {p : Prop} (h : p) : Hid p := h
theorem qL {k : IntKind} {a b : Int} (h : a = b) : Ending.returned (.int k a) = .returned (.int k b) := by rw [h]
theorem yH {a b : Bool} (h : a = b) : Ending.returned (.bool a) = .returned (.bool b) := by rw [h]
theorem tD {k l : IntKind} {a b c d : Int} (h : a = b) (h2 : c = d) : Ending.returned (.tuple #[.int k a, .int l c]) = .returned (.tuple #[.int k b, .int l d]) := by rw [h, h2]
theorem mI {P : Program} {f : FuncId} {args : Array Value} {w : World} {n : Nat} {v : Value}
 (h : Calls P f args (w.drewN n) fun e w' => e = .returned v ∧ w.drewN n = w') : Calls P f args (w.drewN n) fun e w'' => e = .returned v ∧ ∃ m, w'' = w.drewN m :=
 h.mono fun _ _ hh => ⟨hh.1, n, hh.2.symm⟩
theorem below_drewN {B : Nat} {a w : World} (h : Below B a w) (n : Nat) : Below B a (w.drewN n) := ⟨h.os, h.tape, h.output, h.size, h.block⟩
theorem ZH (a : Int) (ha : qH a) (w : World) : Calls Tryz.prog 101 #[.int .i64 a] w fun e w' => e = .returned (.int .u64 a.natAbs) ∧ w = w' := by
 obtain ⟨a1, a2⟩ := ha
 go_enter Tryz.func101, Tryz.ntmps101
 go_wp2
 all_goals
  go_ret
  refine ⟨qL ?_, rfl⟩
  first | omega | (simp [IntKind.wrap_u64] at *; omega)
def ZI (n : Int) (neg : Bool) : Bool := if neg then decide (n ≤ 9223372036854775808) else decide (n < 9223372036854775808)
theorem wE (n : Int) (neg : Bool) (h0 : 0 ≤ n) (h : ZI n neg = true) (w : World) :
 Calls Tryz.prog 104 #[.int .u64 n, .bool neg] w fun e w' => e = .returned (.tuple #[.int .i64 (if neg then -n else n), .int .i64 0]) ∧ w = w' := by
 cases neg <;> simp [ZI] at h <;>
 · go_enter Tryz.func104, Tryz.ntmps104
   go_wp2
   go_ret2
   exact ⟨tD (by first | omega | (simp [wrap64, IntKind.wrap_u64]; done) | (simp [wrap64, IntKind.wrap_u64]; omega)) rfl, rfl⟩
theorem cJ (n : Int) (neg : Bool) (h0 : 0 ≤ n) (h : ZI n neg = false) (w : World) :
 Calls Tryz.prog 104 #[.int .u64 n, .bool neg] w fun e w' => e = .returned (.tuple #[.int .i64 0, .int .i64 2]) ∧ w = w' := by
 cases neg <;> simp [ZI] at h <;>
 · go_enter Tryz.func104, Tryz.ntmps104
   go_wp2
   go_ret2
   exact ⟨rfl, rfl⟩
theorem Qq (x y : Int) (hx : 0 ≤ x) (hx2 : x < 18446744073709551616) (hy : 0 ≤ y) (hy2 : y < 18446744073709551616) (w : World) :
 Calls Tryz.prog 102 #[.int .u64 x, .int .u64 y] w fun e w' => e = .returned (.tuple #[.int .u64 (x * y / 18446744073709551616), .int .u64 (x * y % 18446744073709551616)]) ∧ w = w' := by
 obtain ⟨x, rfl⟩ := Int.eq_ofNat_of_zero_le hx
 obtain ⟨y, rfl⟩ := Int.eq_ofNat_of_zero_le hy
 refine (Tryz.bits_Mul64 x y (by omega) (by omega) w).mono ?_
 rintro e w' ⟨rfl, rfl⟩
 refine ⟨?_, rfl⟩
 simp
theorem Gt (lo y : Int) (hlo : 0 ≤ lo) (hlo2 : lo < 18446744073709551616) (hy : 0 < y) (hy2 : y < 18446744073709551616) (w : World) :
 Calls Tryz.prog 103 #[.int .u64 0, .int .u64 lo, .int .u64 y] w fun e w' => e = .returned (.tuple #[.int .u64 (lo / y), .int .u64 (lo % y)]) ∧ ∃ m, w' = w.drewN m := by
 have h1 : (y == 0) = false := by simp; omega
 have h2 : (lo / y) * y = lo - lo % y := by have := Int.emod_add_mul_ediv lo y; have := Int.mul_comm y (lo / y); omega
 go_enter Tryz.func103, Tryz.ntmps103
 go_wp2
 go_quiet (fail)
 go_wp2
 go_ret2
 exact ⟨rfl, _, rfl⟩
theorem Mw (y : Int) (hy : 0 < y) (hy2 : y < 18446744073709551616) (w : World) :
 Calls Tryz.prog 119 #[.int .u64 y] w fun e w' => (∃ s : Nat, s ≤ 63 ∧ 9223372036854775808 ≤ y * 2 ^ s ∧ y * 2 ^ s < 18446744073709551616 ∧ e = .returned (.int .i64 s)) ∧ w = w' := by
 refine (Tryz.bits_LeadingZeros64 y w (by omega) (by omega)).mono ?_
 rintro e w' ⟨rfl, rfl⟩
 refine ⟨?_, rfl⟩
 obtain ⟨y, rfl⟩ := Int.eq_ofNat_of_zero_le (Int.le_of_lt hy)
 obtain ⟨b1, b2, b3⟩ := Lib.bitLenAux_bounds 64 y (by simp; omega) (by omega)
 have b0 : Lib.bitLen y ≤ 64 := Lib.bitLenAux_le 64 y 64 (by simp; omega)
 have e : ∃ L, Lib.bitLen y = L := ⟨_, rfl⟩
 obtain ⟨L, e⟩ := e
 have e' : Lib.bitLenAux 64 y = L := e
 rw [e'] at b1 b2 b3
 rw [e] at b0
 refine ⟨64 - L, by omega, ?_, ?_, by rw [Int.toNat_natCast, e, show ((64 - L : Nat) : Int) = 64 - (L : Int) from by omega]⟩
 · have h : 2 ^ (L - 1) * 2 ^ (64 - L) ≤ y * 2 ^ (64 - L) := Nat.mul_le_mul_right _ b2
   rw [← Nat.pow_add, show L - 1 + (64 - L) = 63 from by omega] at h
   have h' : ((9223372036854775808 : Nat) : Int) ≤ ((y * 2 ^ (64 - L) : Nat) : Int) := Int.ofNat_le.2 h
   rw [Int.natCast_mul, Int.natCast_pow] at h'
   exact h'
 · have h : y * 2 ^ (64 - L) < 2 ^ L * 2 ^ (64 - L) := Nat.mul_lt_mul_of_pos_right b3 (Nat.two_pow_pos _)
   rw [← Nat.pow_add, show L + (64 - L) = 64 from by omega] at h
   have h' : ((y * 2 ^ (64 - L) : Nat) : Int) < ((18446744073709551616 : Nat) : Int) := Int.ofNat_lt.2 h
   rw [Int.natCast_mul, Int.natCast_pow] at h'
   exact h'
theorem mJ (x : Int) (h : 0 ≤ x) (h2 : x < 18446744073709551616) : bits .and .u64 x 4294967295 = x % 4294967296 := by
 obtain ⟨x, rfl⟩ := Int.eq_ofNat_of_zero_le h
 have := Mul64.maskN x (by omega)
 simpa using this
theorem sM (hi lo : Int) (s : Nat) (hs : s ≤ 63) (h0 : 0 ≤ hi) (l0 : 0 ≤ lo) (l1 : lo < 18446744073709551616) (h1 : hi * 2 ^ s < 18446744073709551616) :
 bits .or .u64 (IntKind.u64.wrap (hi * 2 ^ s)) (lo / 2 ^ (64 - s)) = (hi * 18446744073709551616 + lo) * 2 ^ s / 18446744073709551616 := by
 obtain ⟨hi, rfl⟩ := Int.eq_ofNat_of_zero_le h0
 obtain ⟨lo, rfl⟩ := Int.eq_ofNat_of_zero_le l0
 have hsplit : (18446744073709551616 : Nat) = 2 ^ (64 - s) * 2 ^ s := by rw [← Nat.pow_add, show 64 - s + s = 64 from by omega]
 have hlt : lo / 2 ^ (64 - s) < 2 ^ s := by
  rw [Nat.div_lt_iff_lt_mul (Nat.two_pow_pos _), Nat.mul_comm, ← hsplit]
  omega
 have hN : hi * 2 ^ s < 18446744073709551616 := by
  have h' : ((hi * 2 ^ s : Nat) : Int) < ((18446744073709551616 : Nat) : Int) := by rw [Int.natCast_mul, Int.natCast_pow]; exact h1
  exact Int.ofNat_lt.1 h'
 have hlo' : lo / 2 ^ (64 - s) < 18446744073709551616 := Nat.lt_of_le_of_lt (Nat.div_le_self _ _) (by omega)
 have e1 : IntKind.u64.wrap ((hi : Int) * 2 ^ s) = ((hi * 2 ^ s : Nat) : Int) := by
  rw [IntKind.wrap_u64, show (hi : Int) * 2 ^ s = ((hi * 2 ^ s : Nat) : Int) from by rw [Int.natCast_mul, Int.natCast_pow]; rfl]
  omega
 have e2 : (lo : Int) / 2 ^ (64 - s) = ((lo / 2 ^ (64 - s) : Nat) : Int) := by rw [Int.natCast_ediv, Int.natCast_pow]; rfl
 rw [e1, e2, bits_or_u64_nat _ _ hN hlo']
 have e3 : hi * 2 ^ s ||| lo / 2 ^ (64 - s) = hi * 2 ^ s + lo / 2 ^ (64 - s) := by
  have := Nat.shiftLeft_add_eq_or_of_lt hlt hi
  rw [Nat.shiftLeft_eq] at this
  exact this.symm
 rw [e3]
 have e4 : ((hi : Int) * 18446744073709551616 + lo) * 2 ^ s / 18446744073709551616 = (((hi * 18446744073709551616 + lo) * 2 ^ s / 18446744073709551616 : Nat) : Int) := by rw [Int.natCast_ediv, Int.natCast_mul, Int.natCast_add, Int.natCast_mul, Int.natCast_pow]; rfl
 rw [e4]
 congr 1
 have e5 : (hi * 18446744073709551616 + lo) * 2 ^ s / 18446744073709551616 = hi * 2 ^ s + lo * 2 ^ s / 18446744073709551616 := by
  rw [Nat.add_mul, show hi * 18446744073709551616 * 2 ^ s = 18446744073709551616 * (hi * 2 ^ s) from by grind, Nat.mul_add_div (by decide)]
 rw [e5]
 congr 1
 have e6 : lo * 2 ^ s / (2 ^ (64 - s) * 2 ^ s) = lo / 2 ^ (64 - s) := Nat.mul_div_mul_right _ _ (Nat.two_pow_pos _)
 rw [← e6]
 exact congrArg _ hsplit.symm
theorem cK (hi lo y : Int) (hhi : 0 < hi) (hhy : hi < y) (hlo : 0 ≤ lo) (hlo2 : lo < 18446744073709551616) (hy2 : y < 18446744073709551616) (w : World) :
 Calls Tryz.prog 103 #[.int .u64 hi, .int .u64 lo, .int .u64 y] w fun e w' => e = .returned (.tuple #[.int .u64 ((hi * 18446744073709551616 + lo) / y), .int .u64 ((hi * 18446744073709551616 + lo) % y)]) ∧ ∃ m, w' = w.drewN m := by
 have h1 : (y == 0) = false := by simp; omega
 have h2 : (hi == 0) = false := by simp; omega
 go_enter Tryz.func103, Tryz.ntmps103
 go_wp2_with fail
 refine (Mw _ (by omega) (by omega) _).mono ?_
 rintro e w' ⟨⟨s, hs, p1, p2, rfl⟩, rfl⟩
 have hp : (0 : Int) < 2 ^ s := Int.pow_pos (by decide)
 have hhs : hi * 2 ^ s < y * 2 ^ s := Int.mul_lt_mul_of_pos_right hhy hp
 have eU := sM hi lo s hs (by omega) hlo hlo2 (by omega)
 have hN : 0 ≤ hi * 18446744073709551616 + lo := by omega
 have rY : IntKind.u64.wrap (y * 2 ^ s) = y * 2 ^ s := by rw [IntKind.wrap_u64]; omega
 generalize hYe : y * 2 ^ s = Y at *
 have rY' : IntKind.u64.wrap (y * 2 ^ s) = Y := by rw [hYe]; exact rY
 clear rY
 generalize hVe : IntKind.u64.wrap (lo * 2 ^ s) = V at *
 have hV0 : 0 ≤ V ∧ V < 18446744073709551616 := by rw [← hVe, IntKind.wrap_u64]; omega
 have hUV : (hi * 18446744073709551616 + lo) * 2 ^ s = (hi * 18446744073709551616 + lo) * 2 ^ s / 18446744073709551616 * 18446744073709551616 + V := by
  rw [← hVe, IntKind.wrap_u64]
  have e : (hi * 18446744073709551616 + lo) * 2 ^ s = hi * 2 ^ s * 18446744073709551616 + lo * 2 ^ s := by grind
  rw [e]; omega
 have hUY : (hi * 18446744073709551616 + lo) * 2 ^ s / 18446744073709551616 < Y := by
  have e : (hi * 18446744073709551616 + lo) * 2 ^ s = hi * 2 ^ s * 18446744073709551616 + lo * 2 ^ s := by grind
  have h3 : (hi + 1) * 2 ^ s ≤ y * 2 ^ s := Int.mul_le_mul_of_nonneg_right (by omega) (by omega)
  have h4 : lo * 2 ^ s < 18446744073709551616 * 2 ^ s := Int.mul_lt_mul_of_pos_right hlo2 hp
  have e2 : (hi + 1) * 2 ^ s = hi * 2 ^ s + 2 ^ s := by grind
  rw [e]; omega
 have hU0 : 0 ≤ (hi * 18446744073709551616 + lo) * 2 ^ s / 18446744073709551616 := Int.ediv_nonneg (Int.mul_nonneg hN (by omega)) (by decide)
 generalize (hi * 18446744073709551616 + lo) * 2 ^ s / 18446744073709551616 = U at *
 have HUV := hide hUV
 have HY := hide hYe
 clear hUV hYe hhs
 have ea1 := mJ Y (by omega) (by omega)
 have ea2 := mJ V hV0.1 hV0.2
 obtain ⟨hV1, hV2⟩ := hV0
 have dy : Y = Y / 4294967296 * 4294967296 + Y % 4294967296 := by omega
 have dv : V = V / 4294967296 * 4294967296 + V % 4294967296 := by omega
 have by1 : 2147483648 ≤ Y / 4294967296 ∧ Y / 4294967296 < 4294967296 := by omega
 have by0 : 0 ≤ Y % 4294967296 ∧ Y % 4294967296 < 4294967296 := by omega
 have bv1 : 0 ≤ V / 4294967296 ∧ V / 4294967296 < 4294967296 := by omega
 have bv0 : 0 ≤ V % 4294967296 ∧ V % 4294967296 < 4294967296 := by omega
 have DY := hide dy
 have DV := hide dv
 clear dy dv
 generalize hy1 : Y / 4294967296 = y1 at *
 generalize hy0 : Y % 4294967296 = y0 at *
 generalize hv1 : V / 4294967296 = v1 at *
 generalize hv0 : V % 4294967296 = v0 at *
 have hq1 := Int.emod_add_mul_ediv U y1
 have hq2 := Int.emod_nonneg U (show y1 ≠ 0 by omega)
 have hq3 := Int.emod_lt_of_pos U (show 0 < y1 by omega)
 have hq0 : 0 ≤ U / y1 := Int.ediv_nonneg hU0 (by omega)
 have EX := Yf (u := U) (v := v1) DY.out rfl by1.1 by0.1 by0.2 hU0 hUY bv1.1 bv1.2
 obtain ⟨g1, g2, g3, g4⟩ := EX
 generalize hqe : U / y1 = q0 at *
 have hm : IntKind.u64.wrap (q0 * y1) = q0 * y1 := by
  have : y1 * q0 = q0 * y1 := Int.mul_comm _ _
  have : 0 ≤ q0 * y1 := Int.mul_nonneg hq0 (by omega)
  rw [IntKind.wrap_u64]; omega
 have hr : IntKind.u64.wrap (U - q0 * y1) = U % y1 := by
  have : y1 * q0 = q0 * y1 := Int.mul_comm _ _
  rw [IntKind.wrap_u64]; omega
 have HQ : Hid (U = q0 * y1 + U % y1) := by
  have : y1 * q0 = q0 * y1 := Int.mul_comm _ _
  show U = _
  omega
 generalize U % y1 = r0 at *
 generalize hE : (U * 4294967296 + v1) / Y = E at *
 have HE := hide hE
 clear hE hq1
 go_wp2_with fail
 go_loop [15, 16] (fun a b => ∃ qq rr : Int, a = .int .u64 qq ∧ b = .int .u64 rr ∧ 0 ≤ qq ∧ qq ≤ 4294967297 ∧ 0 ≤ rr ∧ rr < 4294967296 ∧ Hid (U = qq * y1 + rr) ∧ E ≤ qq) (fun a _ => (intOf a).toNat)
 case atStart => exact ⟨q0, r0, by rw [hqe], rfl, by omega, by omega, by omega, by omega, HQ, by omega⟩
 case round =>
  obtain ⟨qq, rr, rfl, rfl, i1, i2, i3, i4, i5, i6⟩ := hrel
  have b1 : 0 ≤ qq * y0 := Int.mul_nonneg i1 by0.1
  have b2 : qq * y0 ≤ 4294967297 * 4294967295 := Int.mul_le_mul i2 (by omega) by0.1 (by decide)
  have hYp : 0 < Y := by omega
  have hW : 0 ≤ U * 4294967296 + v1 - E * Y ∧ U * 4294967296 + v1 - E * Y < Y := by
   have a := Int.emod_add_mul_ediv (U * 4294967296 + v1) Y
   have b := Int.emod_nonneg (U * 4294967296 + v1) (show Y ≠ 0 by omega)
   have c := Int.emod_lt_of_pos (U * 4294967296 + v1) hYp
   have d : Y * ((U * 4294967296 + v1) / Y) = E * Y := by rw [HE.out]; exact Int.mul_comm _ _
   omega
  obtain ⟨W, hWe⟩ : ∃ W, W = U * 4294967296 + v1 - E * Y := ⟨_, rfl⟩
  have eW : IntKind.u64.wrap (IntKind.u64.wrap (IntKind.u64.wrap (U * 4294967296) + v1) - IntKind.u64.wrap (E * Y)) = W := by
   simp only [IntKind.wrap_u64]; omega
  rw [← hWe] at hW
  obtain ⟨hW0, hWY⟩ := hW
  have HW := hide hWe
  clear hWe
  have GX := Yf (u := W) (v := v0) DY.out rfl by1.1 by0.1 by0.2 hW0 hWY bv0.1 bv0.2
  obtain ⟨j1, j2, j3, j4⟩ := GX
  have hk1 := Int.emod_add_mul_ediv W y1
  have hk2 := Int.emod_nonneg W (show y1 ≠ 0 by omega)
  have hk3 := Int.emod_lt_of_pos W (show 0 < y1 by omega)
  have hk0 : 0 ≤ W / y1 := Int.ediv_nonneg hW0 (by omega)
  have hZ : 0 ≤ W * 4294967296 + v0 - (W * 4294967296 + v0) / Y * Y ∧ W * 4294967296 + v0 - (W * 4294967296 + v0) / Y * Y < Y := by
   have a := Int.emod_add_mul_ediv (W * 4294967296 + v0) Y
   have b := Int.emod_nonneg (W * 4294967296 + v0) (show Y ≠ 0 by omega)
   have c := Int.emod_lt_of_pos (W * 4294967296 + v0) hYp
   have d : Y * ((W * 4294967296 + v0) / Y) = (W * 4294967296 + v0) / Y * Y := Int.mul_comm _ _
   omega
  generalize hpe : W / y1 = p0 at *
  have hm2 : IntKind.u64.wrap (p0 * y1) = p0 * y1 := by
   have : y1 * p0 = p0 * y1 := Int.mul_comm _ _
   have : 0 ≤ p0 * y1 := Int.mul_nonneg hk0 (by omega)
   rw [IntKind.wrap_u64]; omega
  have hr2 : IntKind.u64.wrap (W - p0 * y1) = W % y1 := by
   have : y1 * p0 = p0 * y1 := Int.mul_comm _ _
   rw [IntKind.wrap_u64]; omega
  have HP : Hid (W = p0 * y1 + W % y1) := by
   have : y1 * p0 = p0 * y1 := Int.mul_comm _ _
   show W = _
   omega
  generalize W % y1 = s0 at *
  generalize hF : (W * 4294967296 + v0) / Y = F at *
  have HF := hide hF
  clear hF hk1
  have FIN := hide (fp hp (show 0 < y by omega) HUV.out HY.out DV.out HW.out hZ.1 hZ.2)
  obtain ⟨Z, hZe⟩ : ∃ Z, Z = W * 4294967296 + v0 - F * Y := ⟨_, rfl⟩
  have eZ : IntKind.u64.wrap (IntKind.u64.wrap (IntKind.u64.wrap (W * 4294967296) + v0) - IntKind.u64.wrap (F * Y)) = Z := by
   simp only [IntKind.wrap_u64]; omega
  rw [← hZe] at hZ
  have FIN' : Hid ((hi * 18446744073709551616 + lo) / y = E * 4294967296 + F ∧ (hi * 18446744073709551616 + lo) % y = Z / 2 ^ s) := by rw [hZe]; exact FIN.out
  obtain ⟨hZ0, hZY⟩ := hZ
  clear hZe FIN
  have H3 : (E = qq ∧ qq < 4294967296 ∧ qq * y0 ≤ 4294967296 * rr + v1) ∨ (Hid (4294967296 ≤ qq ∨ 4294967296 * rr + v1 < qq * y0) ∧ E = qq - 1 ∧ 4294967296 ≤ rr + y1) ∨
   (Hid (4294967296 ≤ qq ∨ 4294967296 * rr + v1 < qq * y0) ∧ E ≤ qq - 1 ∧ rr + y1 < 4294967296 ∧ Hid (U = (qq - 1) * y1 + (rr + y1))) := by
   by_cases hc : 4294967296 ≤ qq ∨ 4294967296 * rr + v1 < qq * y0
   · have hm1 : E ≤ qq - 1 := by
      rcases hc with h | h
      · omega
      · exact VO DY.out HE.out hYp i5.out h
     have hn := VP i5.out
     by_cases hd : 4294967296 ≤ rr + y1
     · refine .inr (.inl ⟨hide hc, ?_, hd⟩)
       refine (xd DY.out HE.out hYp hn hm1 ?_).symm
       have : (qq - 1) * y0 ≤ 4294967296 * 4294967295 := Int.mul_le_mul (by omega) (by omega) by0.1 (by decide)
       omega
     · exact .inr (.inr ⟨hide hc, hm1, by omega, hn⟩)
   · exact .inl ⟨(xd DY.out HE.out hYp i5.out i6 (by omega)).symm, by omega, by omega⟩
  rcases H3 with ⟨hqE, c1, c2⟩ | ⟨hc, hqE, c1⟩ | ⟨hc, c1, c2, c3⟩
  case' inl =>
   subst hqE
   go_wp2_with fail
  case' inr.inl =>
   obtain rfl : qq = E + 1 := by omega
   clear hqE
   by_cases hA : 4294967296 ≤ E + 1
   case' pos => go_wp2_with fail
   case' neg =>
    have hB : 4294967296 * rr + v1 < (E + 1) * y0 := by have := hc.out; omega
    go_wp2_with fail
  case inr.inr =>
   by_cases hA : 4294967296 ≤ qq
   · go_wp2_with fail
     go_round
     case rel => exact ⟨qq - 1, rr + y1, rfl, rfl, by omega, by omega, by omega, by omega, c3, by omega⟩
     case measure => simp [intOf]; omega
   · have hB : 4294967296 * rr + v1 < qq * y0 := by have := hc.out; omega
     go_wp2_with fail
     go_round
     case rel => exact ⟨qq - 1, rr + y1, rfl, rfl, by omega, by omega, by omega, by omega, c3, by omega⟩
     case measure => simp [intOf]; omega
  all_goals
   go_loop [18, 16] (fun a b => ∃ qq rr : Int, a = .int .u64 qq ∧ b = .int .u64 rr ∧ 0 ≤ qq ∧ qq ≤ 4294967297 ∧ 0 ≤ rr ∧ rr < 4294967296 ∧ Hid (W = qq * y1 + rr) ∧ F ≤ qq) (fun a _ => (intOf a).toNat)
   case atStart => exact ⟨p0, s0, by first | rfl | rw [hpe], rfl, by omega, by omega, by omega, by omega, HP, by omega⟩
   case round =>
    obtain ⟨qk, rk, rfl, rfl, k1, k2, k3, k4, k5, k6⟩ := hrel
    have b3 : 0 ≤ qk * y0 := Int.mul_nonneg k1 by0.1
    have b4 : qk * y0 ≤ 4294967297 * 4294967295 := Int.mul_le_mul k2 (by omega) by0.1 (by decide)
    have H4 : (F = qk ∧ qk < 4294967296 ∧ qk * y0 ≤ 4294967296 * rk + v0) ∨ (Hid (4294967296 ≤ qk ∨ 4294967296 * rk + v0 < qk * y0) ∧ F = qk - 1 ∧ 4294967296 ≤ rk + y1) ∨
     (Hid (4294967296 ≤ qk ∨ 4294967296 * rk + v0 < qk * y0) ∧ F ≤ qk - 1 ∧ rk + y1 < 4294967296 ∧ Hid (W = (qk - 1) * y1 + (rk + y1))) := by
     by_cases hc : 4294967296 ≤ qk ∨ 4294967296 * rk + v0 < qk * y0
     · have hm1 : F ≤ qk - 1 := by
        rcases hc with h | h
        · omega
        · exact VO DY.out HF.out hYp k5.out h
       have hn := VP k5.out
       by_cases hd : 4294967296 ≤ rk + y1
       · refine .inr (.inl ⟨hide hc, ?_, hd⟩)
         refine (xd DY.out HF.out hYp hn hm1 ?_).symm
         have : (qk - 1) * y0 ≤ 4294967296 * 4294967295 := Int.mul_le_mul (by omega) (by omega) by0.1 (by decide)
         omega
       · exact .inr (.inr ⟨hide hc, hm1, by omega, hn⟩)
     · exact .inl ⟨(xd DY.out HF.out hYp k5.out k6 (by omega)).symm, by omega, by omega⟩
    rcases H4 with ⟨hqF, d1, d2⟩ | ⟨hc, hqF, d1⟩ | ⟨hc, d1, d2, d3⟩
    case' inl =>
     subst hqF
     go_wp2_with fail
    case' inr.inl =>
     obtain rfl : qk = F + 1 := by omega
     clear hqF
     by_cases hA : 4294967296 ≤ F + 1
     case' pos => go_wp2_with fail
     case' neg =>
      have hB : 4294967296 * rk + v0 < (F + 1) * y0 := by have := hc.out; omega
      go_wp2_with fail
    case inr.inr =>
     by_cases hA : 4294967296 ≤ qk
     · go_wp2_with fail
       go_round
       case rel => exact ⟨qk - 1, rk + y1, rfl, rfl, by omega, by omega, by omega, by omega, d3, by omega⟩
       case measure => simp [intOf]; omega
     · have hB : 4294967296 * rk + v0 < qk * y0 := by have := hc.out; omega
       go_wp2_with fail
       go_round
       case rel => exact ⟨qk - 1, rk + y1, rfl, rfl, by omega, by omega, by omega, by omega, d3, by omega⟩
       case measure => simp [intOf]; omega
    all_goals
     go_ret2
     exact ⟨tD (by rw [FIN'.out.1]) (by rw [FIN'.out.2]), 0, rfl⟩
theorem KZ (hi lo y : Int) (hhi : 0 ≤ hi) (hhy : hi < y) (hlo : 0 ≤ lo) (hlo2 : lo < 18446744073709551616) (hy2 : y < 18446744073709551616) (w : World) :
 Calls Tryz.prog 103 #[.int .u64 hi, .int .u64 lo, .int .u64 y] w fun e w' => e = .returned (.tuple #[.int .u64 ((hi * 18446744073709551616 + lo) / y), .int .u64 ((hi * 18446744073709551616 + lo) % y)]) ∧ ∃ m, w' = w.drewN m := by
 by_cases h : hi = 0
 · subst h
   simpa using Gt lo y hlo hlo2 hhy hy2 w
 · exact cK hi lo y (by omega) hhy hlo hlo2 hy2 w
theorem Vg (a b : Int) (m : Int) (w : World) :
 Calls Tryz.prog 64 #[.int .i64 a, .int .i64 b, .int .i64 0, .int .u8 m] w fun e w' => e = .returned (.tuple #[.int .i64 0, .int .i64 1]) ∧ ∃ n, w' = w.drewN n := by
 go_enter Tryz.func64, Tryz.ntmps64
 go_wp2
 go_ret2
 exact ⟨rfl, 0, rfl⟩
structure Mx (m : Nat) (a b c A B D Q R : Int) : Prop where
 sum : A * B / 18446744073709551616 * 18446744073709551616 + A * B % 18446744073709551616 = A * B
 q0 : 0 ≤ Q
 r0 : 0 ≤ R
 rd : R < D
 big : D ≤ A * B / 18446744073709551616 → qM m a b c = (0, 2)
 small : A * B / 18446744073709551616 < D → Q < 18446744073709551616
 val : ∀ neg : Bool, (neg = true ↔ ((a < 0 ↔ ¬ b < 0) ↔ ¬ c < 0)) → jG m (a * b) c = ri neg (Q.toNat + (away m neg R.toNat D.toNat).toNat)
theorem WB (a b : Int) : ((a * b).natAbs : Int) = a.natAbs * b.natAbs := by rw [Int.natAbs_mul]; rfl
theorem sN (m : Nat) (a b c : Int) (h0 : c ≠ 0) : Mx m a b c a.natAbs b.natAbs c.natAbs ((a.natAbs : Int) * b.natAbs / c.natAbs) ((a.natAbs : Int) * b.natAbs % c.natAbs) := by
 have hD : 0 < (c.natAbs : Int) := by omega
 have hN : 0 ≤ (a.natAbs : Int) * b.natAbs := Int.mul_nonneg (by omega) (by omega)
 have hval : ∀ neg : Bool, (neg = true ↔ ((a < 0 ↔ ¬ b < 0) ↔ ¬ c < 0)) → jG m (a * b) c = ri neg (((a.natAbs : Int) * b.natAbs / c.natAbs).toNat + (away m neg ((a.natAbs : Int) * b.natAbs % c.natAbs).toNat (c.natAbs : Int).toNat).toNat) := by
  intro neg hneg
  rw [fk m (a * b) c neg h0 (by
   intro hne
   have ha : a ≠ 0 := fun h => hne (by rw [h, Int.zero_mul])
   have hb : b ≠ 0 := fun h => hne (by rw [h, Int.mul_zero])
   have hs : a * b < 0 ↔ (a < 0 ↔ ¬ b < 0) := by
    rcases Int.lt_or_lt_of_ne ha with h1 | h1 <;> rcases Int.lt_or_lt_of_ne hb with h2 | h2
    · have := Int.mul_pos_of_neg_of_neg h1 h2; omega
    · have := Int.mul_neg_of_neg_of_pos h1 h2; omega
    · have := Int.mul_neg_of_pos_of_neg h1 h2; omega
    · have := Int.mul_pos h1 h2; omega
   rw [hneg, hs])]
  rw [← WB]
  have e1 : ((((a * b).natAbs : Int) / (c.natAbs : Int)).toNat) = (a * b).natAbs / c.natAbs := by
   rw [← Int.natCast_ediv]; rfl
  have e2 : ((((a * b).natAbs : Int) % (c.natAbs : Int)).toNat) = (a * b).natAbs % c.natAbs := by
   rw [← Int.natCast_emod]; rfl
  rw [e1, e2]
  rfl
 have hq := Int.ediv_nonneg hN (Int.le_of_lt hD)
 refine ⟨by omega, hq, Int.emod_nonneg _ (by omega), Int.emod_lt_of_pos _ hD, ?_, ?_, hval⟩
 · intro hb
   have h1 : 18446744073709551616 ≤ (a.natAbs : Int) * b.natAbs / c.natAbs := by
    rw [Int.le_ediv_iff_mul_le hD]
    omega
   have hn : ∃ neg : Bool, (neg = true ↔ ((a < 0 ↔ ¬ b < 0) ↔ ¬ c < 0)) := ⟨decide ((a < 0 ↔ ¬ b < 0) ↔ ¬ c < 0), decide_eq_true_iff⟩
   obtain ⟨neg, hneg⟩ := hn
   have hv := hval neg hneg
   generalize (a.natAbs : Int) * b.natAbs / c.natAbs = Q at *
   generalize (away m neg ((a.natAbs : Int) * b.natAbs % c.natAbs).toNat (c.natAbs : Int).toNat).toNat = k at *
   have hout : Zj (jG m (a * b) c) = false := by
    rw [hv]
    unfold Zj ri
    cases neg <;> simp <;> omega
   unfold qM
   rw [if_neg h0, hout]
   rfl
 · intro hb
   rw [Int.ediv_lt_iff_lt_mul hD]
   omega
def sg (n : Int) (neg : Bool) : Int × Int := if ZI n neg then (if neg then -n else n, 0) else (0, 2)
theorem Vh (n : Int) (neg : Bool) (h0 : 0 ≤ n) (w : World) :
 Calls Tryz.prog 104 #[.int .u64 n, .bool neg] w fun e w' => e = .returned (.tuple #[.int .i64 (sg n neg).1, .int .i64 (sg n neg).2]) ∧ w = w' := by
 unfold sg
 by_cases h : ZI n neg = true
 · rw [if_pos h]
   exact wE n neg h0 h w
 · rw [if_neg h]
   exact cJ n neg h0 (by simpa using h) w
theorem Nd {m : Nat} {a b c Q : Int} {neg : Bool} (k : Int) (h0 : (c == 0) = false) (hq : 0 ≤ Q) {kn : Nat} (hr : jG m (a * b) c = ri neg (Q.toNat + kn)) (hk : (kn : Int) = k) : qM m a b c = sg (Q + k) neg := by
 have h0' : c ≠ 0 := by simpa using h0
 unfold qM
 rw [if_neg h0', hr]
 have e : ri neg (Q.toNat + kn) = if neg then -(Q + k) else Q + k := by
  unfold ri
  cases neg <;> simp <;> omega
 rw [e]
 unfold sg ZI Zj
 cases neg
 · by_cases h : Q + k < 9223372036854775808
   · rw [if_pos (by simp; omega)]; simp [h]
   · rw [if_neg (by simp; omega)]; simp [h]
 · by_cases h : Q + k ≤ 9223372036854775808
   · rw [if_pos (by simp; omega)]; simp [h]
   · rw [if_neg (by simp; omega)]; simp [h]
theorem aw (m : Nat) (neg : Bool) (R D : Int) (hR : 0 ≤ R) (hD : R < D) : ((away m neg R.toNat D.toNat).toNat : Int) = if m = 0 then (if neg = true ∧ 0 < R then 1 else 0) else if m = 1 then (if neg = false ∧ 0 < R then 1 else 0) else (if D - R < R ∨ (neg = false ∧ R = D - R) then 1 else 0) := by
 have e1 : (0 < R.toNat) = (0 < R) := by simp
 have e2 : (D.toNat - R.toNat < R.toNat) = (D - R < R) := by rw [eq_iff_iff]; omega
 have e3 : (R.toNat = D.toNat - R.toNat) = (R = D - R) := by rw [eq_iff_iff]; omega
 unfold away
 by_cases h0 : m = 0
 · simp only [h0, if_true, e1]
   cases neg <;> by_cases h : 0 < R <;> simp [h]
 · by_cases h1 : m = 1
   · simp only [h1, if_true, e1]
     cases neg <;> by_cases h : 0 < R <;> simp [h]
   · simp only [h0, h1, if_false, e2, e3]
     rw [show (decide (D - R < R) || (!neg && decide (R = D - R))) = decide (D - R < R ∨ (neg = false ∧ R = D - R)) from by cases neg <;> simp]
     by_cases hh : D - R < R ∨ (neg = false ∧ R = D - R)
     · rw [if_pos hh, decide_eq_true hh]; rfl
     · rw [if_neg hh, decide_eq_false hh]; rfl
theorem kq {x y : Int × Int} (h : x = y) : Ending.returned (.tuple #[.int .i64 x.1, .int .i64 x.2]) = .returned (.tuple #[.int .i64 y.1, .int .i64 y.2]) := by rw [h]
end Go.Proofs.YteanfgobpjdmnaaGreatDoor
