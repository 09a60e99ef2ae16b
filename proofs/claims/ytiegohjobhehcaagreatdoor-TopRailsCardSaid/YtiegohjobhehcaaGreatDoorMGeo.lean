/-
  The walks of points: their validity, vectors and products.
-/
import Derived.Test.YtiegohjobhehcaaGreatDoorMShelf
import Derived.Test.YtiegohjobhehcaaGreatDoorMSeries
set_option maxRecDepth 100000
set_option maxHeartbeats 16000000
namespace Go.Proofs.YtiegohjobhehcaaGreatDoor
open Go.RowKit
set_option linter.unusedVariables false
theorem NI(x y:Int):(decide (-2000000≤x)&&decide (x≤2000000)&&decide (-2000000≤y)&&decide (y≤2000000))=qw x y:=by
 unfold qw;simp[Bool.and_assoc]
theorem xW(x y:Int)(w:World):
 Calls Tryz.prog 31 #[.agg #[Iv x,Iv y]] w fun e w'=>e= .returned (.bool (qw x y))∧w'=w.alloc (.cells #[Iv x,Iv y] 26):=by
 go_enter Tryz.func31,Tryz.ntmps31;go_wp2
 all_goals
  go_ret;exact⟨vG (by rw[←NI];simp;try omega),rfl⟩
theorem ZW(ax ay bx b_y:Int)(h1: -4000000≤bx-ax)(h2:bx-ax≤4000000)(h3: -4000000≤b_y-ay)(h4:b_y-ay≤4000000)(w:World):
 Calls Tryz.prog 27 #[.agg #[Iv ax,Iv ay],.agg #[Iv bx,Iv b_y]] w fun e w'=>e= .returned (.agg #[Iv (bx-ax),Iv (b_y-ay)])∧w'=((w.alloc (.cells #[Iv ax,Iv ay] 26)).alloc (.cells #[Iv bx,Iv b_y] 26)).alloc (.cells #[Iv (bx-ax),Iv (b_y-ay)] 26):=by
 go_enter Tryz.func27,Tryz.ntmps27;go_wp2;exact bodyPost_ret (v:= .agg #[Iv (bx-ax),Iv (b_y-ay)]) (by simp[results,Tryz.results27,go_sem]) rfl ⟨rfl,rfl⟩
theorem vh{a b:Int}(h1: -4000000≤a)(h2:a≤4000000)(h3: -4000000≤b)(h4:b≤4000000): -16000000000000≤a*b∧a*b≤16000000000000:=by
 have e1:=Int.mul_nonneg (show 0≤4000000-a by omega) (show 0≤4000000-b by omega);have e2:=Int.mul_nonneg (show 0≤4000000+a by omega) (show 0≤4000000+b by omega);have e3:=Int.mul_nonneg (show 0≤4000000-a by omega) (show 0≤4000000+b by omega);have e4:=Int.mul_nonneg (show 0≤4000000+a by omega) (show 0≤4000000-b by omega);have f1:(4000000-a)*(4000000-b)=16000000000000-4000000*a-4000000*b+a*b:=by grind
 have f2:(4000000+a)*(4000000+b)=16000000000000+4000000*a+4000000*b+a*b:=by grind
 have f3:(4000000-a)*(4000000+b)=16000000000000-4000000*a+4000000*b-a*b:=by grind
 have f4:(4000000+a)*(4000000-b)=16000000000000+4000000*a-4000000*b-a*b:=by grind
 omega
theorem fI(dx dy ex ey:Int)(h1: -4000000≤dx)(h2:dx≤4000000)(h3: -4000000≤dy)(h4:dy≤4000000)(h5: -4000000≤ex)(h6:ex≤4000000)(h7: -4000000≤ey)(h8:ey≤4000000)(w:World):
 Calls Tryz.prog 204 #[.agg #[Iv dx,Iv dy],.agg #[Iv ex,Iv ey]] w fun e w'=>e= .returned (Iv (dx*ey-dy*ex))∧w'=(w.alloc (.cells #[Iv dx,Iv dy] 26)).alloc (.cells #[Iv ex,Iv ey] 26):=by
 have p1:=vh (a:=dx) (b:=ey) qg qg qg qg;have p2:=vh (a:=dy) (b:=ex) qg qg qg qg;go_enter Tryz.func204,Tryz.ntmps204;go_wp2;go_ret;exact⟨rfl,rfl⟩
theorem NJ(dx dy ex ey:Int)(h1: -4000000≤dx)(h2:dx≤4000000)(h3: -4000000≤dy)(h4:dy≤4000000)(h5: -4000000≤ex)(h6:ex≤4000000)(h7: -4000000≤ey)(h8:ey≤4000000)(w:World):
 Calls Tryz.prog 91 #[.agg #[Iv dx,Iv dy],.agg #[Iv ex,Iv ey]] w fun e w'=>e= .returned (Iv (dx*ex+dy*ey))∧w'=(w.alloc (.cells #[Iv dx,Iv dy] 26)).alloc (.cells #[Iv ex,Iv ey] 26):=by
 have p1:=vh (a:=dx) (b:=ex) qg qg qg qg;have p2:=vh (a:=dy) (b:=ey) qg qg qg qg;go_enter Tryz.func91,Tryz.ntmps91;go_wp2;go_ret;exact⟨rfl,rfl⟩
theorem qu{B:Nat}{a w:World}(h:Below B a w)(hB:B≤a.heap.size)(o:Obj):Below B a (w.alloc o):=h.alloc (Nat.le_trans hB h.size) o
theorem qH{w1 w2 a:World}(h:Below w1.heap.size w1 w2)(k:Below a.heap.size a w1):Below a.heap.size a w2:=k.trans (h.mono k.size)
theorem Ge(a b:Int)(w:World):
 Calls Tryz.prog 202 #[Iv a,Iv b] w fun e w'=>e= .returned (Iv (gZ a b))∧w=w':=by
 go_enter Tryz.func202,Tryz.ntmps202;go_wp2
 all_goals
  go_ret;exact⟨qQ (by unfold gZ;omega),rfl⟩
theorem xm(ax ay bx b_y:Int)(h1: -4000000≤bx-ax)(h2:bx-ax≤4000000)(h3: -4000000≤b_y-ay)(h4:b_y-ay≤4000000)(w:World):
 Calls Tryz.prog 27 #[.agg #[Iv ax,Iv ay],.agg #[Iv bx,Iv b_y]] w fun e w'=>e= .returned (.agg #[Iv (bx-ax),Iv (b_y-ay)])∧Below w.heap.size w w':=
 (ZW ax ay bx b_y h1 h2 h3 h4 w).mono fun e w' ⟨he,hw⟩=>⟨he,by rw[hw];exact qu (qu (qu (Below.refl _ _) (Nat.le_refl _) _) (Nat.le_refl _) _) (Nat.le_refl _) _⟩
theorem qE(x y:Int)(w:World):Calls Tryz.prog 31 #[.agg #[Iv x,Iv y]] w fun e w'=>e= .returned (.bool (qw x y))∧Below w.heap.size w w':=
 (xW x y w).mono fun e w' ⟨he,hw⟩=>⟨he,by rw[hw];exact qu (Below.refl _ _) (Nat.le_refl _) _⟩
theorem Vb(dx dy ex ey:Int)(h1: -4000000≤dx)(h2:dx≤4000000)(h3: -4000000≤dy)(h4:dy≤4000000)(h5: -4000000≤ex)(h6:ex≤4000000)(h7: -4000000≤ey)(h8:ey≤4000000)(w:World):
 Calls Tryz.prog 204 #[.agg #[Iv dx,Iv dy],.agg #[Iv ex,Iv ey]] w fun e w'=>e= .returned (Iv (dx*ey-dy*ex))∧Below w.heap.size w w':=
 (fI dx dy ex ey h1 h2 h3 h4 h5 h6 h7 h8 w).mono fun e w' ⟨he,hw⟩=>⟨he,by rw[hw];exact qu (qu (Below.refl _ _) (Nat.le_refl _) _) (Nat.le_refl _) _⟩
theorem Gf(dx dy ex ey:Int)(h1: -4000000≤dx)(h2:dx≤4000000)(h3: -4000000≤dy)(h4:dy≤4000000)(h5: -4000000≤ex)(h6:ex≤4000000)(h7: -4000000≤ey)(h8:ey≤4000000)(w:World):
 Calls Tryz.prog 91 #[.agg #[Iv dx,Iv dy],.agg #[Iv ex,Iv ey]] w fun e w'=>e= .returned (Iv (dx*ex+dy*ey))∧Below w.heap.size w w':=
 (NJ dx dy ex ey h1 h2 h3 h4 h5 h6 h7 h8 w).mono fun e w' ⟨he,hw⟩=>⟨he,by rw[hw];exact qu (qu (Below.refl _ _) (Nat.le_refl _) _) (Nat.le_refl _) _⟩
set_option linter.unusedSimpArgs false
theorem uo(W:World)(o:Obj)(k:Nat)(hk:W.heap.size=k):(W.alloc o).heap[k]? =some o:=by subst hk;exact heap_alloc_new W o
theorem jX{x y:Int}(h:qw x y=true): -2000000≤x∧x≤2000000∧ -2000000≤y∧y≤2000000:=by unfold qw at h;exact of_decide_eq_true h
theorem qi{W w1:World}(hb:Below W.heap.size W w1){b o:Nat}{v:Value}(h:W.cell? ⟨b,o,none⟩=some v):w1.cell? ⟨b,o,none⟩=some v:=(hb.cell (World.block_lt_of_cell? W _ h)).trans h
theorem zf{w:World}{c:Array Value}{t:TypeId}{n i:Nat}{v:Value}(hn:n=w.heap.size)(h:c[i]? =some v):(w.alloc (.cells c t)).cell? ⟨n,i,none⟩=some v:=(World.cell?_alloc_at (w:=w) c t n i hn).trans h
theorem qR{w:World}{a:Addr}{v:Value}(h:w.cell? a=some v)(o:Obj):(w.alloc o).cell? a=some v:=(World.cell?_alloc_some w a o (by rw[h];rfl)).trans h
theorem qX{w:World}{a:Addr}{v:Value}(h:w.cell? a=some v):w.drew.cell? a=some v:=h
theorem qV{w:World}{a:Addr}{v:Value}(h:w.cell? a=some v)(n:Nat):(w.drewN n).cell? a=some v:=h
def KE(l:List (Int×Int)):Bool:=l.all fun p=>qw p.1 p.2
def NK(w:World)(b k:Nat)(x y:Int):Prop:=w.cell? ⟨b,k*2,none⟩=some (Iv x)∧w.cell? ⟨b,k*2+1,none⟩=some (Iv y)
theorem fJ{l:List (Int×Int)}{k:Nat}{x y:Int}(hp:KE (l.take k)=true)(hk:k<l.length)(hx:l[k]=(x,y))(hv:qw x y=true):KE (l.take (k+1))=true:=by
 unfold KE at*;rw[List.take_succ_eq_append_getElem hk,List.all_append,hp,hx];simp[hv]
theorem NL{l:List (Int×Int)}{k:Nat}{x y:Int}(hk:k<l.length)(hx:l[k]=(x,y))(hv:qw x y=false):KE l=false:=by
 unfold KE;rw[List.all_eq_false];exact⟨(x,y),by rw[←hx];exact List.getElem_mem hk,by simp[hv]⟩
theorem Yn(l:List (Int×Int))(b:Nat)(w:World)(hb:b<w.heap.size)(hl:l.length≤1000)(h:Hid (∀(k:Nat) (x y:Int),l[k]? =some (x,y)→NK w b k x y)):
 Calls Tryz.prog 26 #[.slice (some ⟨b,0,none⟩) l.length l.length] w fun e w'=>e= .returned (.bool (KE l))∧Below w.heap.size w w':=by
 go_enter Tryz.func26,Tryz.ntmps26;go_wp2_with fail;go_loopw [7] (fun i W=>∃k:Nat,k≤l.length∧i=Iv k∧KE (l.take k)=true∧Below w.heap.size w W) (fun i _=>l.length-(intOf i).toNat)
 case atStart=>exact⟨0,Nat.zero_le _,rfl,rfl,Below.refl _ _⟩
 case round=>
  obtain⟨k,hk,rfl,hp,hB⟩:=hrel;have HP:=hide hp;clear hp;by_cases hlt:k<l.length
  ·obtain⟨x,y,hxy⟩:∃x y,l[k]=(x,y):=⟨_,_,rfl⟩;have hpt:=h.out k x y (by rw[List.getElem?_eq_getElem hlt,hxy]);have c1:wr.cell? ⟨b,k*2,none⟩=some (Iv x):=(hB.cell hb).trans hpt.1;have c2:wr.cell? ⟨b,k*2+1,none⟩=some (Iv y):=(hB.cell hb).trans hpt.2;have HXY:=hide hxy;clear hxy hpt;rcases hv:qw x y with _|_
   ·have HNO:=hide (NL hlt HXY.out hv);go_wp2_with fail;refine(xW x y _).mono ?_;rintro e w' ⟨rfl,rfl⟩;go_wp2_with fail;go_ret;exact⟨vG HNO.out.symm,qu (qu hB (Nat.le_refl _) _) (Nat.le_refl _) _⟩
   ·have HST:=hide (fJ HP.out hlt HXY.out hv);go_wp2_with fail;refine(xW x y _).mono ?_;rintro e w' ⟨rfl,rfl⟩;go_wp2_with fail;go_roundw
    case rel=>exact⟨k+1,by omega,by go_num,HST.out,qu (qu hB (Nat.le_refl _) _) (Nat.le_refl _) _⟩
    case measure=>simp[intOf];omega
  ·go_wp2_with fail;go_ret;have e:k=l.length:=qg;exact⟨vG (by have:=HP.out;rw[e,List.take_length]at this;exact this.symm),hB⟩
theorem gQ(x0 y0 x1 y1:Int)(b:Nat)(t:TypeId)(w:World)(h:w.heap[b]? =some (.cells #[Iv x0,Iv y0,Iv x1,Iv y1] t)):
 Calls Tryz.prog 26 #[.slice (some ⟨b,0,none⟩) 2 2] w fun e w'=>e= .returned (.bool (qw x0 y0&&qw x1 y1))∧Below w.heap.size w w':=by
 have hb:b<w.heap.size:=by
  rcases Nat.lt_or_ge b w.heap.size with hlt|hge
  ·exact hlt
  ·rw[Array.getElem?_eq_none hge]at h;cases h
 have hc:=fun i=>cell_of_row w b i _ t (0,0) h
 refine(Yn [(x0,y0),(x1,y1)] b w hb jL ?_).mono ?_
 ·intro k x y hk;unfold NK;rw[hc,hc]
  match k,hk with
  |0,hk=>simp at hk;rw[←hk.1,←hk.2];exact⟨rfl,rfl⟩
  |1,hk=>simp at hk;rw[←hk.1,←hk.2];exact⟨rfl,rfl⟩
  |k+2,hk=>simp at hk
 ·rintro e w' ⟨he,hB⟩;refine⟨?_,hB⟩;rw[he];exact vG (by simp[KE,Bool.and_assoc])
theorem kC(x0 y0 x1 y1 x2 y2:Int)(b:Nat)(t:TypeId)(w:World)(h:w.heap[b]? =some (.cells #[Iv x0,Iv y0,Iv x1,Iv y1,Iv x2,Iv y2] t)):
 Calls Tryz.prog 26 #[.slice (some ⟨b,0,none⟩) 3 3] w fun e w'=>e= .returned (.bool (qw x0 y0&&qw x1 y1&&qw x2 y2))∧Below w.heap.size w w':=by
 have hb:b<w.heap.size:=by
  rcases Nat.lt_or_ge b w.heap.size with hlt|hge
  ·exact hlt
  ·rw[Array.getElem?_eq_none hge]at h;cases h
 have hc:=fun i=>cell_of_row w b i _ t (0,0) h
 refine(Yn [(x0,y0),(x1,y1),(x2,y2)] b w hb jL ?_).mono ?_
 ·intro k x y hk;unfold NK;rw[hc,hc]
  match k,hk with
  |0,hk=>simp at hk;rw[←hk.1,←hk.2];exact⟨rfl,rfl⟩
  |1,hk=>simp at hk;rw[←hk.1,←hk.2];exact⟨rfl,rfl⟩
  |2,hk=>simp at hk;rw[←hk.1,←hk.2];exact⟨rfl,rfl⟩
  |k+3,hk=>simp at hk
 ·rintro e w' ⟨he,hB⟩;refine⟨?_,hB⟩;rw[he];exact vG (by simp[KE,Bool.and_assoc])
theorem VE(x0 y0 x1 y1 x2 y2 x3 y3:Int)(b:Nat)(t:TypeId)(w:World)(h:w.heap[b]? =some (.cells #[Iv x0,Iv y0,Iv x1,Iv y1,Iv x2,Iv y2,Iv x3,Iv y3] t)):
 Calls Tryz.prog 26 #[.slice (some ⟨b,0,none⟩) 4 4] w fun e w'=>e= .returned (.bool (qw x0 y0&&qw x1 y1&&qw x2 y2&&qw x3 y3))∧Below w.heap.size w w':=by
 have hb:b<w.heap.size:=by
  rcases Nat.lt_or_ge b w.heap.size with hlt|hge
  ·exact hlt
  ·rw[Array.getElem?_eq_none hge]at h;cases h
 have hc:=fun i=>cell_of_row w b i _ t (0,0) h
 refine(Yn [(x0,y0),(x1,y1),(x2,y2),(x3,y3)] b w hb jL ?_).mono ?_
 ·intro k x y hk;unfold NK;rw[hc,hc]
  match k,hk with
  |0,hk=>simp at hk;rw[←hk.1,←hk.2];exact⟨rfl,rfl⟩
  |1,hk=>simp at hk;rw[←hk.1,←hk.2];exact⟨rfl,rfl⟩
  |2,hk=>simp at hk;rw[←hk.1,←hk.2];exact⟨rfl,rfl⟩
  |3,hk=>simp at hk;rw[←hk.1,←hk.2];exact⟨rfl,rfl⟩
  |k+4,hk=>simp at hk
 ·rintro e w' ⟨he,hB⟩;refine⟨?_,hB⟩;rw[he];exact vG (by simp[KE,Bool.and_assoc])
def jZ(w:World)(a:Addr):Value:=(w.cell? a).getD undef
theorem UR{w:World}{a:Addr}{v:Value}(h:w.cell? a=some v):w.cell? a=some (jZ w a):=by unfold jZ;rw[h];rfl
theorem qK{B:Nat}{a w:World}(h:Below B a w){p:Addr}(hp:B≤p.block)(u:Value):Below B a (w.setCell p u):=h.setCell hp u
theorem jI{w:World}{a:Addr}{v:Value}(h:w.cell? a=some v)(hf:w.frozen? a=false):w.cell? a=some (jZ w a)∧w.frozen? a=false:=⟨UR h,hf⟩
theorem km{w:World}{a:Addr}(h:w.cell? a=some (jZ w a)∧w.frozen? a=false):w.drew.cell? a=some (jZ w.drew a)∧w.drew.frozen? a=false:=h
theorem vp{w:World}{a:Addr}(h:w.cell? a=some (jZ w a)∧w.frozen? a=false)(n:Nat):(w.drewN n).cell? a=some (jZ (w.drewN n) a)∧(w.drewN n).frozen? a=false:=h
theorem qI{W w1:World}(hb:Below W.heap.size W w1){a:Addr}(h:W.cell? a=some (jZ W a)∧W.frozen? a=false):w1.cell? a=some (jZ w1 a)∧w1.frozen? a=false:=
 have hl:=World.block_lt_of_cell? W a h.1
 ⟨UR ((hb.cell hl).trans h.1),(hb.frozen hl).trans h.2⟩
theorem yo{w:World}{a:Addr}(h:w.cell? a=some (jZ w a)∧w.frozen? a=false)(o:Obj):(w.alloc o).cell? a=some (jZ (w.alloc o) a)∧(w.alloc o).frozen? a=false:=
 qI ((Below.refl _ w).alloc (Nat.le_refl _) o) h
theorem uf{w:World}{a:Addr}(h:w.cell? a=some (jZ w a)∧w.frozen? a=false)(p:Addr)(u:Value):(w.setCell p u).cell? a=some (jZ (w.setCell p u) a)∧(w.setCell p u).frozen? a=false:=by
 refine⟨?_,?_⟩
 ·by_cases e:p=a
  ·subst e;exact UR (World.cell?_setCell_same' w p u (by rw[h.1];rfl))
  ·exact UR ((World.cell?_setCell_other w p a u e).trans h.1)
 ·rw[←h.2];simp
theorem bw{w:World}{c:Array Value}{t:TypeId}{n i:Nat}{v:Value}(hn:n=w.heap.size)(h:c[i]? =some v):(w.alloc (.cells c t)).cell? ⟨n,i,none⟩=some (jZ (w.alloc (.cells c t)) ⟨n,i,none⟩)∧(w.alloc (.cells c t)).frozen? ⟨n,i,none⟩=false:=
 jI (zf hn h) (by subst hn;simp)
theorem zr{w:World}{a p:Addr}{v:Value}(hp:p.block≠a.block)(h:w.cell? a=some v)(u:Value):(w.setCell p u).cell? a=some v:=(World.cell?_setCell_other w p a u (fun e=>hp (by rw[e]))).trans h
def fK(w:World)(b o:Nat)(x:El):Prop:=
 w.cell? ⟨b,o,none⟩=some (.bool x.c)∧w.cell? ⟨b,o+1,none⟩=some (Iv x.ax)∧w.cell? ⟨b,o+2,none⟩=some (Iv x.ay)∧w.cell? ⟨b,o+3,none⟩=some (Iv x.bx)∧w.cell? ⟨b,o+4,none⟩=some (Iv x.b_y)∧w.cell? ⟨b,o+5,none⟩=some (Iv x.cx)∧w.cell? ⟨b,o+6,none⟩=some (Iv x.cy)∧w.cell? ⟨b,o+7,none⟩=some (Iv x.r)∧w.cell? ⟨b,o+8,none⟩=some (Iv x.f)∧w.cell? ⟨b,o+9,none⟩=some (Iv x.s)∧w.cell? ⟨b,o+10,none⟩=some (Iv x.L)∧w.cell? ⟨b,o+11,none⟩=some (Iv x.n)∧w.cell? ⟨b,o+12,none⟩=some (.bool x.g)
def uW(w:World)(S:Option Addr)(l:List El):Prop:=∀(k:Nat) (x:El),l[k]? =some x→∃b o,S=some ⟨b,o,none⟩∧fK w b (o+k*13) x
theorem wF{W w1:World}(hb:Below W.heap.size W w1){b o:Nat}{x:El}(h:fK W b o x):fK w1 b o x:=by
 unfold fK at*;obtain⟨h0,h1,h2,h3,h4,h5,h6,h7,h8,h9,h10,h11,h12⟩:=h;exact⟨qi hb h0,qi hb h1,qi hb h2,qi hb h3,qi hb h4,qi hb h5,qi hb h6,qi hb h7,qi hb h8,qi hb h9,qi hb h10,qi hb h11,qi hb h12⟩
theorem kQ{W w1:World}(hb:Below W.heap.size W w1){S:Option Addr}{l:List El}(h:uW W S l):uW w1 S l:=by
 intro k x hk;obtain⟨b,o,e,h⟩:=h k x hk;exact⟨b,o,e,wF hb h⟩
theorem wG{W:World}{b o k:Nat}{l:List El}{x:El}(h:uW W (some ⟨b,o,none⟩) l)(hk:l[k]? =some x):fK W b (o+k*13) x:=by
 obtain⟨b',o',e,h⟩:=h k x hk;injection e with e;injection e with e1 e2;subst e1;subst e2;exact h
theorem Gg{W:World}{S:Option Addr}{l:List El}(h:uW W S l)(h0:0<l.length):∃b o,S=some ⟨b,o,none⟩:=by
 obtain⟨b,o,e,_⟩:=h 0 l[0] (List.getElem?_eq_getElem h0);exact⟨b,o,e⟩
end Go.Proofs.YtiegohjobhehcaaGreatDoor
