import Derived.Test.YtjjdojokkmfbmaaGreatDoorMPlan2
import Derived.Test.YtjjdojokkmfbmaaGreatDoorMMem
namespace Go.Proofs.YtjjdojokkmfbmaaGreatDoor
open Go.RowKit
set_option linter.unusedVariables false
set_option maxRecDepth 100000 in
set_option maxHeartbeats 2000000 in
theorem neq_run (x : En) (w : World) : (binOp .neq 39 (.agg #[.bool true, .int .u8 x.ty, .string x.fx, .string x.ct, .int .u8 x.tn, .bool x.ov, .int .i64 x.crs, .int .i64 x.dst, .int .i64 x.rad, .int .i64 x.tht, .int .i64 x.lo, .int .i64 x.hi, .int .i64 x.spd, .int .i64 x.rnp, .int .i64 x.ex, .int .i64 x.ey, .int .i64 x.mx, .int .i64 x.my, .int .u8 x.sec, .string x.via]) (.agg #[.bool true, .int .u8 0, .string ⟨#[]⟩, .string ⟨#[]⟩, .int .u8 0, .bool false, .int .i64 0, .int .i64 0, .int .i64 0, .int .i64 0, .int .i64 0, .int .i64 0, .int .i64 0, .int .i64 0, .int .i64 0, .int .i64 0, .int .i64 0, .int .i64 0, .int .u8 0, .string ⟨#[]⟩])).run Tryz.prog w = .ok (.bool (!pureB x)) w := by
  have s0 : ∀ s : ByteArray, s.toList = [] ↔ s = ⟨#[]⟩ := fun s => by rw [Lib.toList_data]; exact ⟨str_nil, fun e => by rw [e]⟩
  go_simp
  clear s0
  by_cases hty : x.ty = 0
  rotate_left 1
  · rw [if_neg hty, show pureB x = false by simp [pureB, hty]]; rfl
  rw [if_pos hty]
  by_cases hfx : x.fx = ⟨#[]⟩
  rotate_left 1
  · rw [if_neg hfx, show pureB x = false by simp [pureB, hfx]]; rfl
  rw [if_pos hfx]
  by_cases hct : x.ct = ⟨#[]⟩
  rotate_left 1
  · rw [if_neg hct, show pureB x = false by simp [pureB, hct]]; rfl
  rw [if_pos hct]
  by_cases htn : x.tn = 0
  rotate_left 1
  · rw [if_neg htn, show pureB x = false by simp [pureB, htn]]; rfl
  rw [if_pos htn]
  by_cases hov : x.ov = true
  · rw [if_pos hov, show pureB x = false by simp [pureB, hov]]; rfl
  rw [if_neg hov]
  by_cases hcrs : x.crs = 0
  rotate_left 1
  · rw [if_neg hcrs, show pureB x = false by simp [pureB, hcrs]]; rfl
  rw [if_pos hcrs]
  by_cases hdst : x.dst = 0
  rotate_left 1
  · rw [if_neg hdst, show pureB x = false by simp [pureB, hdst]]; rfl
  rw [if_pos hdst]
  by_cases hrad : x.rad = 0
  rotate_left 1
  · rw [if_neg hrad, show pureB x = false by simp [pureB, hrad]]; rfl
  rw [if_pos hrad]
  by_cases htht : x.tht = 0
  rotate_left 1
  · rw [if_neg htht, show pureB x = false by simp [pureB, htht]]; rfl
  rw [if_pos htht]
  by_cases hlo : x.lo = 0
  rotate_left 1
  · rw [if_neg hlo, show pureB x = false by simp [pureB, hlo]]; rfl
  rw [if_pos hlo]
  by_cases hhi : x.hi = 0
  rotate_left 1
  · rw [if_neg hhi, show pureB x = false by simp [pureB, hhi]]; rfl
  rw [if_pos hhi]
  by_cases hspd : x.spd = 0
  rotate_left 1
  · rw [if_neg hspd, show pureB x = false by simp [pureB, hspd]]; rfl
  rw [if_pos hspd]
  by_cases hrnp : x.rnp = 0
  rotate_left 1
  · rw [if_neg hrnp, show pureB x = false by simp [pureB, hrnp]]; rfl
  rw [if_pos hrnp]
  by_cases hex : x.ex = 0
  rotate_left 1
  · rw [if_neg hex, show pureB x = false by simp [pureB, hex]]; rfl
  rw [if_pos hex]
  by_cases hey : x.ey = 0
  rotate_left 1
  · rw [if_neg hey, show pureB x = false by simp [pureB, hey]]; rfl
  rw [if_pos hey]
  by_cases hmx : x.mx = 0
  rotate_left 1
  · rw [if_neg hmx, show pureB x = false by simp [pureB, hmx]]; rfl
  rw [if_pos hmx]
  by_cases hmy : x.my = 0
  rotate_left 1
  · rw [if_neg hmy, show pureB x = false by simp [pureB, hmy]]; rfl
  rw [if_pos hmy]
  by_cases hsec : x.sec = 0
  rotate_left 1
  · rw [if_neg hsec, show pureB x = false by simp [pureB, hsec]]; rfl
  rw [if_pos hsec]
  by_cases hvia : x.via = ⟨#[]⟩
  rotate_left 1
  · rw [if_neg hvia, show pureB x = false by simp [pureB, hvia]]; rfl
  rw [if_pos hvia]
  have hp : pureB x = true := by simp [pureB, hty, hfx, hct, htn, hov, hcrs, hdst, hrad, htht, hlo, hhi, hspd, hrnp, hex, hey, hmx, hmy, hsec, hvia]
  rw [hp]; rfl
section
variable {ops : Array Oper} {Q : Exit → Act → World → Prop} {a : Act} {w : World} {rest : List Oper} {o : Oper}
theorem at_nex {ty : TypeId} {P : Program} {d : Option Tmp} {x y : Operand} {rt : TypeId} {t : TypeId} {p : String} {l : Array Edge} {g : Option (Nat × Bool)}
    (h : wpList P ops Q ({ dst := d, op := .binOp .neq ty x y rt, type := t, pos := p, after := l, guard := g } :: rest) a w) : wpList P ops Q ({ dst := d, op := .binOp .neq ty x y rt, type := t, pos := p, after := l, guard := g } :: rest) a w := h
/-- is the entry a discontinuity and nothing else? -/
theorem mq_nepure (x : En) {p q : Operand} {rt : TypeId} (ho : o.op = .binOp .neq 39 p q rt) (hgd : o.guard = none) (hp : a.eval p = .agg #[.bool true, .int .u8 x.ty, .string x.fx, .string x.ct, .int .u8 x.tn, .bool x.ov, .int .i64 x.crs, .int .i64 x.dst, .int .i64 x.rad, .int .i64 x.tht, .int .i64 x.lo, .int .i64 x.hi, .int .i64 x.spd, .int .i64 x.rnp, .int .i64 x.ex, .int .i64 x.ey, .int .i64 x.mx, .int .i64 x.my, .int .u8 x.sec, .string x.via])
    (hq : a.eval q = .agg #[.bool true, .int .u8 0, .string ⟨#[]⟩, .string ⟨#[]⟩, .int .u8 0, .bool false, .int .i64 0, .int .i64 0, .int .i64 0, .int .i64 0, .int .i64 0, .int .i64 0, .int .i64 0, .int .i64 0, .int .i64 0, .int .i64 0, .int .i64 0, .int .i64 0, .int .u8 0, .string ⟨#[]⟩])
    (h : wpList Tryz.prog ops Q rest (a.put o.dst (.bool (!pureB x))) w) : wpList Tryz.prog ops Q (o :: rest) a w :=
  wpList_plain hgd fun _ hK => by
    have hr := neq_run x w
    unfold Oper.wp execOp
    simp only [ho, hp, hq, Sem.run_bind, run_eqGuard_agg (P := Tryz.prog) w .neq 39 p q _ _ (by kernel_rfl), Result.andThen_ok, hr]
    exact hK _ _ h
end
end Go.Proofs.YtjjdojokkmfbmaaGreatDoor
