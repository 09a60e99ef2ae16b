/-
  What the walks of a prediction build on: numbers and rows of numbers in memory; answers of which only the kind is said.
-/
import Derived.Test.YtiegohjobhehcaaGreatDoorMMemD
import Derived.Test.YtiegohjobhehcaaGreatDoorMScale
import Derived.LaidMore
namespace Go.Proofs.YtiegohjobhehcaaGreatDoor
open Go.RowKit
set_option linter.unusedVariables false
set_option linter.unusedSimpArgs false
theorem zi(x:Int):qz (wrap64 x):=by unfold qz wrap64;omega
theorem ze(x:Int):qz (IntKind.i64.wrap x):=by rw[IntWalk.i64_left];exact zi x
abbrev bR{α:Type}(v:α→Value)(C:α→Prop)(w:World)(e:Ending)(w':World):Prop:=∃b,e= .returned (v b)∧C b∧Below w.heap.size w w'
abbrev JK(w:World):Ending→World→Prop:=bR (fun b:Bool=> .bool b) (fun _=>True) w
abbrev kY(C:Int→Prop)(w:World):Ending→World→Prop:=bR (fun n:Int=>Iv n) (fun n=>qz n∧C n) w
abbrev tR(C:Int→Int→Prop)(w:World):Ending→World→Prop:=bR (fun n:Int×Int=> .tuple #[Iv n.1,Iv n.2]) (fun n=>qz n.1∧C n.1 n.2) w
section
variable{P:Program}{f:FuncId}{xs:Array Value}{w W:World}{L:List qZ}{R:Ending→World→Prop}
theorem cx{α:Type}{v:α→Value}{C:α→Prop}(hM:qF w W L)(hc:Calls P f xs W (bR v C W))(h:∀b W1,C b→qF w W1 L→R (.returned (v b)) W1):Calls P f xs W R:=
 hc.mono fun e w' hh=>by
  obtain⟨b,he,hC,hb⟩:=hh;subst he;exact h _ _ hC (qD hM hb)
theorem uD{C:Bool→Prop}(hM:qF w W L)(hc:Calls P f xs W (bR (fun b:Bool=> .bool b) C W))(h1:∀W1,C true→qF w W1 L→R (.returned (.bool true)) W1)(h0:∀W1,C false→qF w W1 L→R (.returned (.bool false)) W1):Calls P f xs W R:=
 cx hM hc fun b W1 hC hW=>by
  cases b with
  |false=>exact h0 W1 hC hW
  |true=>exact h1 W1 hC hW
theorem Bq{K:Prop}(hM:qF w W L)(hc:Calls P f xs W (bR (fun n:Int=>Iv n) (fun n=>qz n∧(n=0→K)) W))
 (h1:∀q W1,qz q→¬q=0→(q !=0)=true→qF w W1 L→R (.returned (Iv q)) W1) (h0:∀W1,Hid K→qF w W1 L→R (.returned (Iv 0)) W1):Calls P f xs W R:=
 cx hM hc fun q W1 hq hW=>by
  by_cases hz:q=0
  ·subst hz;exact h0 W1 (hq.2 rfl) hW
  ·exact h1 q W1 hq.1 hz (by simpa using hz) hW
end
def jT(w:World)(S:Option Addr)(n:Nat)(f:Nat→Int):Prop:=∀k,k<n→∃b o,S=some ⟨b,o,none⟩∧w.cell? ⟨b,o+k,none⟩=some (Iv (f k))∧qz (f k)
theorem zW{w W:World}{L:List qZ}(hM:qF w W L){S:Option Addr}{n:Nat}{f:Nat→Int}(h:jT w S n f):jT W S n f:=fun k hk=>by
 obtain⟨b,o,e,h1,h2⟩:=h k hk;exact⟨b,o,e,hM.old h1,h2⟩
structure Sl where
 S:Option Addr
 n:Nat
 c:Nat
abbrev Sl.v(x:Sl):Value:= .slice x.S x.n x.c
def Qs(w:World)(S:Option Addr)(n:Nat)(r:Nat→Sl):Prop:=∀k,k<n→∃b o,S=some ⟨b,o,none⟩∧w.cell? ⟨b,o+k,none⟩=some (r k).v∧(r k).n≤maxLen∧∃f,jT w (r k).S (r k).n f
theorem yP{w W:World}{L:List qZ}(hM:qF w W L){S:Option Addr}{n:Nat}{r:Nat→Sl}(h:Qs w S n r):Qs W S n r:=fun k hk=>by
 obtain⟨b,o,e,h1,h3,f,h2⟩:=h k hk;exact⟨b,o,e,hM.old h1,h3,f,zW hM h2⟩
theorem zE{w:World}{b o n:Nat}{f:Nat→Int}(h:jT w (some ⟨b,o,none⟩) n f){k:Nat}(hk:k<n):w.cell? ⟨b,o+k,none⟩=some (Iv (f k))∧qz (f k):=by
 obtain⟨b2,o2,e,h1,h2⟩:=h k hk;injection e with e;injection e with e1 e2;subst e1 e2;exact⟨h1,h2⟩
theorem gJ{w:World}{S:Option Addr}{n:Nat}{f:Nat→Int}(h:jT w S n f)(hn:0<n):∃b o,S=some ⟨b,o,none⟩:=by
 obtain⟨b,o,e,_⟩:=h 0 hn;exact⟨b,o,e⟩
section
variable{l:List Oper}{Q:Exit→Act→World→Prop}{a:Act}{w W:World}{L K:List qZ}{o:Oper}{fuel:Nat}{listed:Array Bool}
theorem jk(i:Nat){v:Value}{g off:Nat}{ty:TypeId}{x:Operand}(hM:qF w W L)(hC:w.cell? ⟨g,off,none⟩=some v)
 (h:wpAnyH Tryz.prog .any l.toArray Q (Held w K) fuel (listed.setIfInBounds i true) (a.put o.dst v) W) (hk:Ks K L:=by((repeat constructor)<;>fail)) (hn:tN l i o:=by exact ym rfl)
 (hs:Region.noSelect l.toArray=true:=by kernel_rfl) (hf:Region.free .any l.toArray listed i=true:=by kernel_rfl) (hr:(Region.ready .any l.toArray listed).contains i=true:=by kernel_rfl) (hw:Region.wanted o (yielded l.toArray a.tmps)=true:=by rfl)
 (ho:o.op= .load ty x:=by rfl) (hx:a.eval x= .pointer (some ⟨g,off,none⟩):=by rfl) (hg:∀w,(isAgg ty).run Tryz.prog w= .ok false w:=by first|exact ur rfl|exact Tryz.isAgg210|fail)
 (hQ:∀c a w v,Q (.panic c) (a.put o.dst v) w→Q (.panic c) a w:=by exact fun _ _ _ _ h=>h):wpAnyH Tryz.prog .any l.toArray Q (Held w K) (fuel+1) listed a W:=
  wpAnyH_take hn.get hs hf hr (fun c a w=>hQ c a w _) (.inl ⟨hw,fun W1 hS=>by
   unfold execOp;have hc:=hS.old hC
   simp[ho,hx,Instr.loadAt,Instr.sureAddr,loadVar,hg,hc]⟩) (jh hM hk.mem) h
end
theorem zg:qz 0:=⟨qG,qG⟩
theorem vu{a b:Int}(ha:qz a)(hb:qz b):qz (min a b):=by unfold qz at*;omega
theorem ut{a b:Int}(ha:qz a)(hb:qz b):qz (max a b):=by unfold qz at*;omega
abbrev FB{α:Type}(v:α→Value)(C:α→World→Prop)(w:World)(e:Ending)(w':World):Prop:=∃b,e= .returned (v b)∧C b w'∧Below w.heap.size w w'
theorem cw{α:Type}{v:α→Value}{C:α→World→Prop}{P:Program}{f:FuncId}{xs:Array Value}{w W:World}{L:List qZ}{R:Ending→World→Prop}(hM:qF w W L)(hc:Calls P f xs W (FB v C W))(h:∀b W1,C b W1→qF w W1 L→R (.returned (v b)) W1):Calls P f xs W R:=
 hc.mono fun e w' hh=>by
  obtain⟨b,he,hC,hb⟩:=hh;subst he;exact h _ _ hC (qD hM hb)
def zY(w:World)(S:Option Addr)(n:Nat)(f:Nat→Int×Int):Prop:=∀k,k<n→∃b o,S=some ⟨b,o,none⟩∧(∀(j:Nat) (v:Value),[Value.int .i64 (f k).1,Iv (f k).2][j]? =some v→w.cell? ⟨b,o+k*2+j,none⟩=some v)∧qz (f k).1∧qz (f k).2
theorem zj{w W:World}{L:List qZ}(hM:qF w W L){S:Option Addr}{n:Nat}{f:Nat→Int×Int}(h:zY w S n f):zY W S n f:=fun k hk=>by
 obtain⟨b,o,e,h1,h2⟩:=h k hk;exact⟨b,o,e,fun j v hj=>hM.old (h1 j v hj),h2⟩
theorem ve{w:World}{b o n:Nat}{f:Nat→Int×Int}(h:zY w (some ⟨b,o,none⟩) n f){k:Nat}(hk:k<n):(∀(j:Nat) (v:Value),[Value.int .i64 (f k).1,Iv (f k).2][j]? =some v→w.cell? ⟨b,o+k*2+j,none⟩=some v)∧qz (f k).1∧qz (f k).2:=by
 obtain⟨b2,o2,e,h1,h2⟩:=h k hk;injection e with e;injection e with e1 e2;subst e1 e2;exact⟨h1,h2⟩
def Lf(cs:List Value)(k:Nat):Bool:=match cs[k*2]?,cs[k*2+1]? with
 |some (.int .i64 x),some (.int .i64 y)=>decide (-9223372036854775808≤x∧x≤9223372036854775807∧ -9223372036854775808≤y∧y≤9223372036854775807)
 |_,_=>false
theorem Mb{cs:List Value}{k:Nat}(h:Lf cs k=true):∃x y,cs[k*2]? =some (Iv x)∧cs[k*2+1]? =some (Iv y)∧qz x∧qz y:=by
 unfold Lf at h;split at h
 ·rename_i x y h1 h2;have:=of_decide_eq_true h;exact⟨x,y,h1,h2,⟨this.1,this.2.1⟩,this.2.2⟩
 ·cases h
def AP(cs:List Value)(n:Nat):Prop:=∀k,k<n→∃x y,cs[k*2]? =some (Iv x)∧cs[k*2+1]? =some (Iv y)∧qz x∧qz y
theorem iZ{cs:List Value}{n:Nat}(h:(List.range n).all (Lf cs)=true):AP cs n:=fun k hk=>Mb (List.all_eq_true.1 h k (List.mem_range.2 hk))
theorem Ub{w W:World}{L:List qZ}{g n:Nat}{cs:List Value}{t:TypeId}(hM:qF w W L)(h:AP cs n)(hl:Lk L g cs t):∃f,zY W (some ⟨g,0,none⟩) n f:=by
 obtain⟨f,hf⟩:∃f:Nat→Int×Int,∀k,k<n→cs[k*2]? =some (Iv (f k).1)∧cs[k*2+1]? =some (Iv (f k).2)∧qz (f k).1∧qz (f k).2:=by
  refine⟨fun k=>if hk:k<n then((h k hk).choose,(h k hk).choose_spec.choose)else(0,0),fun k hk=> ?_⟩;simp only[dif_pos hk];exact(h k hk).choose_spec.choose_spec
 refine⟨f,fun k hk=>⟨g,0,rfl,fun j v hj=> ?_,(hf k hk).2.2⟩⟩;rw[Nat.zero_add,hM.cell hl]
 match j,hj with
 |0,hj=>exact(hf k hk).1.trans hj
 |1,hj=>exact(hf k hk).2.1.trans hj
 |j+2,hj=>simp at hj
section
variable{ops:Array Oper}{Q:Exit→Act→World→Prop}{a:Act}{w W:World}{L:List qZ}{rest:List Oper}{o:Oper}
theorem lc{t e:TypeId}{s bytes n:Nat}{parts:Array (Nat×Operand)}(es:List (List Value))(hM:qF w W L)(hgd:o.guard=none)(ho:o.op= .buildSlice t n parts)(hu:Tryz.prog.underlying t=some (.slice e))(hI:yw Tryz.prog e s bytes)
 (h:∀g W',qF w W' ((g,es.flatMap id,e)::L)→wpList Tryz.prog ops Q rest (a.put o.dst (.slice (some ⟨g,0,none⟩) n n)) W')
 (hp:(parts.toList.map fun p=>(p.1,a.eval p.2))=((es.map fun e=>Value.agg e.toArray).zipIdx 0).map fun x=>(x.2,x.1):=by rfl) (hes:es.all (fun x=>x.length==s)=true:=by rfl) (hn:es.length=n:=by rfl) (h0:0<n:=by decide) (hs0:0<s:=by decide) (hs:n*s≤10000:=by decide):wpList Tryz.prog ops Q (o::rest) a W:=
 wpList_plain hgd fun K hK=>by
  obtain⟨i,hi,hz0⟩:=Option.map_eq_some_iff.1 hI;simp only[Prod.mk.injEq]at hz0;obtain⟨z1,z2,z3⟩:=hz0;obtain⟨z,hz3,hz4⟩:=Option.map_eq_some_iff.1 z1;have hne:n*s≠0:=Nat.mul_ne_zero qg qg;refine wp_buildSlice t e n parts ho (es.flatMap id).toArray i z hu hi hz3 (by rw[z2];omega) (by rw[z2];exact hne) ?_ (hK _ _ (h _ _ (kR hM _ _)))
  have hf:=Great.fill_whole (s:=s) hs0 (es.map fun e=>Value.agg e.toArray) ((Array.range (n*s)).map (z.cells[· %z.cells.size]!)) (fun v hv=>by
   obtain⟨e,he,rfl⟩:=List.mem_map.1 hv;have:=List.all_eq_true.1 hes e he
   simpa[Value.cells]using this) (by simp[hn])
  have hq:(parts.map fun(i,x)=>(i,a.eval x)).toList=parts.toList.map fun p=>(p.1,a.eval p.2):=by rw[Array.toList_map]
  rw[hq,hp,z2,hf,List.flatMap_map];rfl
end
theorem Jb(m:Nat)(a b c:Int):qz (qL m a b c).1:=by
 unfold qL;split
 ·exact⟨qG,qG⟩
 ·split
  ·rename_i h;simp[Qy]at h;exact h
  ·exact⟨qG,qG⟩
section
variable(a b:Int)(w:World)
set_option maxHeartbeats 400000 in
theorem tQ(ha:qz a)(hb:qz b):Calls Tryz.prog 188 #[Iv a,Iv b] w (tR (fun _ _=>True) w):=by
 go_enter Tryz.func188,Tryz.ntmps188;go_wp2_with(go_at_call 71;refine(Kn _ _ _ (by first|assumption|exact uj) (by first|assumption|exact uj) qY _).mono ?_;rintro e w' ⟨rfl,m,rfl⟩);go_ret2;exact⟨⟨_,_⟩,rfl,⟨Jb _ _ _ _,trivial⟩,below_drewN (Below.refl _ _) _⟩
set_option maxHeartbeats 400000 in
theorem lY(ha:qz a)(hb:qz b):Calls Tryz.prog 159 #[Iv a,Iv b] w (bR (fun n:Int×Int=> .tuple #[Iv n.1,Iv n.2]) (fun n=>n=qL 1 a 1 b) w):=by
 go_enter Tryz.func159,Tryz.ntmps159;go_wp2_with(go_at_call 71;refine(Qh _ _ _ (by first|assumption|exact uj) (by first|assumption|exact uj) qY _).mono ?_;rintro e w' ⟨rfl,m,rfl⟩);go_ret2;exact⟨⟨_,_⟩,rfl,rfl,below_drewN (Below.refl _ _) _⟩
end
theorem pJ(n:Int)(w:World)(hn:qz n):Calls Tryz.prog 90 #[Iv n] w (bR (fun r:Int=>Iv r) (fun r=>r=(kE n.toNat:Int)∧0≤r∧r<4294967296) w):=
 (JT n hn w).mono (by
   rintro e w' ⟨rfl,k,rfl⟩;have h:kE n.toNat<4294967296:=Bi (by have:=hn.2;omega)
   exact⟨_,rfl,⟨rfl,by omega,qg⟩,below_drewN (Below.refl _ _) _⟩)
set_option maxHeartbeats 400000 in
theorem lZ(a:Int)(w:World)(ha:qz a):Calls Tryz.prog 67 #[Iv a] w (kY (fun n=>0≤n) w):=by
 by_cases h:a= -9223372036854775808
 ·subst h;go_enter Tryz.func67,Tryz.ntmps67;go_wp2
  all_goals
   go_ret;exact⟨_,rfl,⟨⟨qG,qG⟩,qG⟩,Below.refl _ _⟩
 ·refine(kV a ha h w).mono ?_;rintro e w' ⟨rfl,rfl⟩;have:=ha.1;have:=ha.2;exact⟨_,rfl,⟨⟨qg,qg⟩,qg⟩,Below.refl _ _⟩
theorem AZ{n:Int}(h:0≤n)(h2:n<4294967296):qz n:=⟨qg,qg⟩
def pq(l:List (Int×Int))(k:Nat):Int×Int:=l.getD k (0,0)
def kZ(st:List (Int×Int))(i:Nat):Nat→Int×Int
 |0=>(0,0)
 |n+1=>((kZ st i n).1+(pq st (i+n)).1,(kZ st i n).2+(pq st (i+n)).2)
theorem Je(st:List (Int×Int))(i:Nat):∀n,kZ st i (n+1)=((pq st i).1+(kZ st (i+1) n).1,(pq st i).2+(kZ st (i+1) n).2)
 |0=>by simp[kZ]
 |n+1=>by
  have h:=Je st i n;rw[kZ,h,kZ,show i+(n+1)=i+1+n by omega];simp only[Int.add_assoc]
def BD(ws st:List (Int×Int))(i j:Nat):Int:=
 if i=j then(pq ws i).1-(pq ws i).2 else
 if(pq ws i).1>(pq ws i).2∨(pq ws j).1>(pq ws j).2 then 0 else
 max ((pq ws j).1-((pq ws i).2+(kZ st i (j-i)).1)) ((pq ws i).1-(kZ st i (j-i)).2-(pq ws j).2)
def Tu(ws st:List (Int×Int)):Prop:=∀i j,i≤j→j<ws.length→BD ws st i j≤0
def KL(st:List (Int×Int)):Prop:=∀x∈st,(0≤x.1∧x.1≤1099511627776)∧0≤x.2∧x.2≤1099511627776
theorem JR{st:List (Int×Int)}(h:KL st)(k:Nat):(0≤(pq st k).1∧(pq st k).1≤1099511627776)∧0≤(pq st k).2∧(pq st k).2≤1099511627776:=by
 unfold pq;rw[List.getD_eq_getElem?_getD];rcases hk:st[k]? with _|x
 ·simp
 ·exact h x (List.mem_of_getElem? hk)
theorem BF{st:List (Int×Int)}(h:KL st)(i:Nat):∀n,(0≤(kZ st i n).1∧(kZ st i n).1≤1099511627776*n)∧0≤(kZ st i n).2∧(kZ st i n).2≤1099511627776*n
 |0=>by simp[kZ]
 |n+1=>by
  have h1:=BF h i n;have h2:=JR h (i+n);simp only[kZ];omega
def Kl(ws st:List (Int×Int))(k:Nat)(h:Int):Prop:=
 (∀n,k+n<ws.length→(pq ws (k+n)).1≤h+(kZ st k n).1)∧∀m n,m+n=k→(pq ws m).1≤h+(kZ st m n).2
theorem Zt{ws st:List (Int×Int)}(hN:Tu ws st){k:Nat}(hk:k<ws.length):(pq ws k).1≤(pq ws k).2:=by
 have:=hN k k (Nat.le_refl _) hk;rw[BD,if_pos rfl]at this;omega
theorem nI{ws st:List (Int×Int)}(hN:Tu ws st){k:Nat}(hk:k<ws.length):Kl ws st k (pq ws k).2:=by
 constructor
 ·intro n hn;have h1:=Zt hN hk;have h2:=Zt hN hn;by_cases hz:n=0
  ·subst hz;simp only[Nat.add_zero,kZ];omega
  have h:=hN k (k+n) qg hn;rw[BD,if_neg qg,if_neg qg,show k+n-k=n by omega]at h;omega
 ·intro m n hm;subst hm;have h1:=Zt hN hk;have h2:(pq ws m).1≤(pq ws m).2:=Zt hN qg;by_cases hz:n=0
  ·subst hz;simp only[Nat.add_zero,kZ]at*;omega
  have h:=hN m (m+n) qg hk;rw[BD,if_neg qg,if_neg qg,show m+n-m=n by omega]at h;omega
theorem MR{ws st:List (Int×Int)}(hS:KL st){k:Nat}(hk:k+1<ws.length){h:Int}(hF:Kl ws st k h):Kl ws st (k+1) (h+(pq st k).1):=by
 constructor
 ·intro n hn;have h1:=hF.1 (n+1) qg;rw[Je]at h1;simp only[show k+(n+1)=k+1+n by omega]at h1;omega
 ·intro m n hm;have hp:=JR hS k;rcases n with _|n
  ·have h2:=hF.1 1 hk;simp only[Nat.add_zero]at hm;subst hm;simp only[kZ,Nat.add_zero,Int.zero_add,Int.add_zero]at h2⊢;exact h2
  ·have h1:=hF.2 m n qg;have h3:=JR hS (m+n);simp only[kZ];omega
theorem sG{ws st:List (Int×Int)}(hS:KL st){k:Nat}(hk:k+1<ws.length){h:Int}(hF:Kl ws st (k+1) h):Kl ws st k (h+(pq st k).2):=by
 constructor
 ·intro n hn;have hp:=JR hS k;rcases n with _|n
  ·have h2:=hF.2 k 1 rfl;simp only[kZ,Nat.add_zero,Int.zero_add,Int.add_zero]at h2⊢;exact h2
  ·have h1:=hF.1 n qg;rw[Je];simp only[show k+(n+1)=k+1+n by omega];omega
 ·intro m n hm;have h1:=hF.2 m (n+1) qg;subst hm;simp only[kZ]at h1;omega
theorem Tv{ws st:List (Int×Int)}{k:Nat}{h i:Int}(hF:Kl ws st k h)(hG:Kl ws st k i):Kl ws st k (min h i):=by
 by_cases hh:h≤i
 ·rw[Int.min_eq_left hh];exact hF
 ·rw[Int.min_eq_right qg];exact hG
theorem dQ{ws st:List (Int×Int)}{k:Nat}{h:Int}(hk:k<ws.length)(hF:Kl ws st k h):(pq ws k).1≤h:=by
 have:=hF.2 k 0 rfl;simp only[kZ,Int.add_zero]at this;exact this
def kw(D:Nat→Int):Nat→Int
 |0=>0
 |k+1=>kw D k+D k
structure Km(T g D:Nat→Int)(N:Nat):Prop where
 zero:T 0=0
 step:∀i,i<N→T i≤T (i+1)
 dist:∀i,i<N→0≤D i
 far:∀i,i<N→D i≤g (i+1)*(T (i+1)-T i)
theorem Jf{T g D:Nat→Int}{N:Nat}(h:Km T g D N){i:Nat}:∀n,i+n≤N→T i≤T (i+n)
 |0,_=>Int.le_refl _
 |n+1,hn=>Int.le_trans (Jf h n qg) (h.step (i+n) qg)
theorem JS{T g D:Nat→Int}{N:Nat}(h:Km T g D N){i j:Nat}(hi:i≤j)(hj:j≤N):T i≤T j:=by
 obtain⟨n,rfl⟩:=Nat.exists_eq_add_of_le hi;exact Jf h n hj
theorem Jg{T g D:Nat→Int}{N:Nat}(h:Km T g D N){i:Nat}:∀n,i+n≤N→T i=T (i+n)→kw D (i+n)=kw D i
 |0,_,_=>rfl
 |n+1,hn,he=>by
  have h1:=Jf h (i:=i) n qg;have h2:=h.step (i+n) qg
  have e:T (i+n)=T (i+n+1):=by
   have:T (i+(n+1))=T (i+n+1):=rfl;omega
  have hf:=h.far (i+n) qg;have hd:=h.dist (i+n) qg;have e2:T (i+(n+1))=T (i+n+1):=rfl;have hl:i+n≤N:=qg;have ih:=Jg h n hl qg;rw[←e,Int.sub_self,Int.mul_zero]at hf
  show kw D (i+n)+D (i+n)=kw D i
  omega
theorem WC{T g D:Nat→Int}{N:Nat}(h:Km T g D N){i j:Nat}(hi:i≤N)(hj:j+1≤i)(hT:T i≤T (j+1)):T (j+1)=T i∧kw D (j+1)=kw D i∧D j≤g (j+1)*(T i-T j):=by
 have h1:=JS h hj hi;have e:T (j+1)=T i:=qg;obtain⟨n,rfl⟩:=Nat.exists_eq_add_of_le hj;refine⟨e,(Jg h n hi e).symm,?_⟩;have:=h.far j qg;rw[e]at this;exact this
theorem nJ{T g D:Nat→Int}{N:Nat}(h:Km T g D N){i:Nat}(hi:i≤N)(hT:T i=0):kw D i=0:=by
 have:=Jg h (i:=0) i qg (by rw[h.zero,Nat.zero_add,hT]);rw[Nat.zero_add]at this;exact this
theorem YG(l:List (Int×Int)){i:Nat}(x:Int×Int)(hi:i<l.length)(k:Nat):pq (l.set i x) k=if k=i then x else pq l k:=by
 unfold pq;rw[List.getD_eq_getElem?_getD,List.getD_eq_getElem?_getD,List.getElem?_set];by_cases h:i=k
 ·subst h;simp[hi]
 ·rw[if_neg h,if_neg (fun e=>h e.symm)]
structure TG(ws st v:List (Int×Int)):Prop where
 len:v.length=ws.length
 hi:∀k,k<ws.length→Kl ws st k (pq v k).2∧(pq v k).2≤(pq ws k).2
theorem Pd{ws st:List (Int×Int)}(hN:Tu ws st):TG ws st ws:=⟨rfl,fun k hk=>⟨nI hN hk,Int.le_refl _⟩⟩
theorem mi{ws st v:List (Int×Int)}(h:TG ws st v){i:Nat}{x y:Int}(hi:i<ws.length)(hf:Kl ws st i y∧y≤(pq ws i).2):TG ws st (v.set i (x,y)):=by
 refine⟨by rw[List.length_set];exact h.len,fun k hk=> ?_⟩;rw[YG v _ (by rw[h.len];exact hi)];by_cases e:k=i
 ·subst e;rw[if_pos rfl];exact hf
 ·rw[if_neg e];exact h.hi k hk
theorem Ez{ws st v:List (Int×Int)}(hS:KL st)(h:TG ws st v){i:Nat}(hi:i+1<ws.length){x:Int}:TG ws st (v.set (i+1) (x,min (pq v (i+1)).2 ((pq v i).2+(pq st i).1))):=
 mi h hi ⟨Tv (h.hi (i+1) hi).1 (MR hS hi (h.hi i qg).1),by have:=(h.hi (i+1) hi).2;omega⟩
theorem Du{ws st v:List (Int×Int)}(hS:KL st)(h:TG ws st v){i:Nat}(hi:i+1<ws.length){x:Int}:TG ws st (v.set i (x,min (pq v i).2 ((pq v (i+1)).2+(pq st i).2))):=
 mi h qg ⟨Tv (h.hi i qg).1 (sG hS hi (h.hi (i+1) hi).1),by have:=(h.hi i qg).2;omega⟩
theorem EA{ws st v:List (Int×Int)}(h:TG ws st v){i:Nat}(hi:i<ws.length){x:Int}:TG ws st (v.set i (x,(pq v i).2)):=mi h hi (h.hi i hi)
theorem cF{ws st v:List (Int×Int)}(h:TG ws st v)(hW:∀k,k<ws.length→(-1099511627776≤(pq ws k).1∧(pq ws k).1≤1099511627776)∧ -1099511627776≤(pq ws k).2∧(pq ws k).2≤1099511627776){k:Nat}(hk:k<ws.length):
 -1099511627776≤(pq v k).2∧(pq v k).2≤1099511627776∧(pq ws k).1≤(pq v k).2∧(pq v k).2≤(pq ws k).2:=by
 have h1:=h.hi k hk;have h2:=dQ hk h1.1;have h3:=hW k hk;omega
section
variable{P:Program}{a:Act}{w W:World}{L:List qZ}{fn:Func}{R:Ending→World→Prop}
theorem FF{cs ds:List Value}{tg th:TypeId}{t u:Tmp}{ty tz:TypeId}{g h n m:Nat}(hM:qF w W L)(hf:fn.results= #[.cell t ty,.cell u tz])(ht:a.tmps.getD t undef= .pointer (some ⟨g,0,none⟩))(hu:a.tmps.getD u undef= .pointer (some ⟨h,0,none⟩))
 (hg:∀w,(isAgg ty).run P w= .ok true w) (hz:∀w,(sizeOf ty).run P w= .ok n w) (kg:∀w,(isAgg tz).run P w= .ok true w) (kz:∀w,(sizeOf tz).run P w= .ok m w)
 (hd:a.defers=[]) (hl:Lk L g cs tg) (kl:Lk L h ds th) (hn:cs.length=n) (hm:ds.length=m) (hR:R (.returned (.tuple #[.agg cs.toArray,.agg ds.toArray])) W):bodyPost P fn R .ret a W:=by
 subst hn hm;refine bodyPost_ret ?_ hd hR;have h1:=zL (P:=P) (W:=W) ty g 0 cs.length cs hg (yA W hz) rfl (fun j v hj=>by rw[Nat.zero_add,hM.cell hl];exact hj);have h2:=zL (P:=P) (W:=W) tz h 0 ds.length ds kg (yA W kz) rfl (fun j v hj=>by rw[Nat.zero_add,hM.cell kl];exact hj);have ht':a.tmps[t]?.getD undef= .pointer (some ⟨g,0,none⟩):=by simpa using ht
 have hu':a.tmps[u]?.getD undef= .pointer (some ⟨h,0,none⟩):=by simpa using hu
 simp[results,hf,ht',hu',asAddr,h1,h2]
theorem Bb{cs ds:List Value}{tg th:TypeId}{t u v:Tmp}{ty tz:TypeId}{g h n m:Nat}{v3:Value}(hM:qF w W L)(hf:fn.results= #[.cell t ty,.cell u tz,.tmp v])(ht:a.tmps.getD t undef= .pointer (some ⟨g,0,none⟩))(hu:a.tmps.getD u undef= .pointer (some ⟨h,0,none⟩))(hv:a.tmps.getD v undef=v3)
 (hg:∀w,(isAgg ty).run P w= .ok true w) (hz:∀w,(sizeOf ty).run P w= .ok n w) (kg:∀w,(isAgg tz).run P w= .ok true w) (kz:∀w,(sizeOf tz).run P w= .ok m w)
 (hd:a.defers=[]) (hl:Lk L g cs tg) (kl:Lk L h ds th) (hn:cs.length=n) (hm:ds.length=m) (hR:R (.returned (.tuple #[.agg cs.toArray,.agg ds.toArray,v3])) W):bodyPost P fn R .ret a W:=by
 subst hn hm hv;refine bodyPost_ret ?_ hd hR;have h1:=zL (P:=P) (W:=W) ty g 0 cs.length cs hg (yA W hz) rfl (fun j v hj=>by rw[Nat.zero_add,hM.cell hl];exact hj);have h2:=zL (P:=P) (W:=W) tz h 0 ds.length ds kg (yA W kz) rfl (fun j v hj=>by rw[Nat.zero_add,hM.cell kl];exact hj);have ht':a.tmps[t]?.getD undef= .pointer (some ⟨g,0,none⟩):=by simpa using ht
 have hu':a.tmps[u]?.getD undef= .pointer (some ⟨h,0,none⟩):=by simpa using hu
 simp[results,hf,ht',hu',asAddr,h1,h2]
end
theorem Bc(a:Int)(w:World)(ha:qz a)(h0:0≤a):Calls Tryz.prog 63 #[Iv a] w fun e w'=>e= .returned (.int .u64 a)∧w=w':=by
 have h:=tG a ha w
 rwa[show((a.natAbs:Nat):Int)=a by omega]at h
theorem Bd(w:World):Calls Tryz.prog 61 #[.bool false] w fun e w'=>e= .returned (Iv 9223372036854775807)∧w=w':=by
 go_enter Tryz.func61,Tryz.ntmps61;go_wp2
 all_goals(go_ret;exact⟨rfl,rfl⟩)
set_option maxRecDepth 100000 in
set_option maxHeartbeats 8000000 in
theorem FI(a b:Int)(w:World)(ha:qz a)(hb:qz b)(h0:0≤a)(h1:0≤b):Calls Tryz.prog 21 #[Iv a,Iv b] w (kY (fun n=>n=min (a*b) 9223372036854775807) w):=by
 have ia:=ha;have ib:=hb;unfold qz at ia ib;have MM:=fun W=>bk a b h0 qg h1 qg W
 obtain⟨Q,hQ⟩:∃Q:Int,a*b=Q:=⟨_,rfl⟩;have hQ0:0≤Q:=by rw[←hQ];exact Int.mul_nonneg h0 h1
 rw[hQ]at MM;rw[hQ];clear hQ ia ib;have d1:decide (a<0)=false:=decide_eq_false qg;have d2:decide (b<0)=false:=decide_eq_false qg;by_cases hh:18446744073709551616≤Q
 ·obtain⟨H,hH⟩:∃H:Int,Q/18446744073709551616=H:=⟨_,rfl⟩;obtain⟨M,hM⟩:∃M:Int,Q%18446744073709551616=M:=⟨_,rfl⟩;have g1:0<H:=qg;have HF:=hide (show(9223372036854775807:Int)=min Q 9223372036854775807 by omega);rw[hH,hM]at MM;clear hH hM hh hQ0;go_enter Tryz.func21,Tryz.ntmps21;go_wp2_with(first|(go_at_call 63;refine(Bc _ _ qY qY).mono ?_;rintro e w' ⟨rfl,rfl⟩)|(go_at_call 62;refine(MM _).mono ?_;rintro e w' ⟨rfl,rfl⟩)|(go_at_call 61;refine(Bd _).mono ?_;rintro e w' ⟨rfl,rfl⟩))
  all_goals(go_ret;exact⟨_,rfl,⟨⟨qG,qG⟩,HF.out⟩,Below.refl _ _⟩)
 ·have SS:=fun W=>Ql Q false hQ0 W
  rw[show Q/18446744073709551616=0 by omega,show Q%18446744073709551616=Q by omega]at MM;by_cases h3:Q<9223372036854775808
  ·have e:sg Q false=(Q,0):=by unfold sg Qu;simp[h3]
   rw[e]at SS;have HF:=hide (show Q=min Q 9223372036854775807 by omega);have iq:qz Q:=⟨qg,qg⟩;clear hh hQ0 h3 e;go_enter Tryz.func21,Tryz.ntmps21;go_wp2_with(first|(go_at_call 63;refine(Bc _ _ qY qY).mono ?_;rintro e w' ⟨rfl,rfl⟩)|(go_at_call 62;refine(MM _).mono ?_;rintro e w' ⟨rfl,rfl⟩)|(go_at_call 64;refine(SS _).mono ?_;rintro e w' ⟨rfl,rfl⟩)|(go_at_call 61;refine(Bd _).mono ?_;rintro e w' ⟨rfl,rfl⟩))
   all_goals(go_ret;exact⟨_,rfl,⟨iq,HF.out⟩,Below.refl _ _⟩)
  ·have e:sg Q false=(0,2):=by unfold sg Qu;simp[h3]
   rw[e]at SS;have HF:=hide (show(9223372036854775807:Int)=min Q 9223372036854775807 by omega);clear hh hQ0 h3 e;go_enter Tryz.func21,Tryz.ntmps21;go_wp2_with(first|(go_at_call 63;refine(Bc _ _ qY qY).mono ?_;rintro e w' ⟨rfl,rfl⟩)|(go_at_call 62;refine(MM _).mono ?_;rintro e w' ⟨rfl,rfl⟩)|(go_at_call 64;refine(SS _).mono ?_;rintro e w' ⟨rfl,rfl⟩)|(go_at_call 61;refine(Bd _).mono ?_;rintro e w' ⟨rfl,rfl⟩))
   all_goals(go_ret;exact⟨_,rfl,⟨⟨qG,qG⟩,HF.out⟩,Below.refl _ _⟩)
end Go.Proofs.YtiegohjobhehcaaGreatDoor
