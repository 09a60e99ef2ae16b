/-
  The memory of a call as a list of the boxes that it has made, each with its cells. What was there ahead of the call is as it was. Loads, stores, new boxes and calls turn the list alone.
-/
import Derived.Test.YtiegohjobhehcaaGreatDoorMPlain
import Derived.Deep.Draws
import Derived.Deep.RegionHeld
import Derived.Deep.DeepCutAuto
import Derived.Deep.AppendLies
import Derived.Great.BuildSlice
import Derived.OpenShut
import Derived.Test.YtiegohjobhehcaaGreatDoorRows
namespace Go.Proofs.YtiegohjobhehcaaGreatDoor
open Go.RowKit
set_option linter.unusedVariables false
abbrev qZ:=Nat×List Value×TypeId
structure qF(w W:World)(L:List qZ):Prop where
 below:Below w.heap.size w W
 rows:∀g cs t,(g,cs,t)∈L→w.heap.size≤g∧W.heap[g]? =some (.cells cs.toArray t (0,0))
 nodup:(L.map (·.1)).Nodup
inductive Lk:List qZ→Nat→List Value→TypeId→Prop
 |head {g:Nat} {cs:List Value} {t:TypeId} {L:List qZ}:Lk ((g,cs,t)::L) g cs t
 |tail {g:Nat} {cs:List Value} {t:TypeId} {e:qZ} {L:List qZ}:Lk L g cs t→Lk (e::L) g cs t
 |app {g:Nat} {cs:List Value} {t:TypeId} {B R:List qZ}:Lk R g cs t→Lk (B++R) g cs t
inductive Up:List qZ→Nat→List Value→List Value→TypeId→List qZ→Prop
 |head {g:Nat} {cs cs':List Value} {t:TypeId} {L:List qZ}:Up ((g,cs,t)::L) g cs cs' t ((g,cs',t)::L)
 |tail {g:Nat} {cs cs':List Value} {t:TypeId} {e:qZ} {L L':List qZ}:Up L g cs cs' t L'→Up (e::L) g cs cs' t (e::L')
 |app {g:Nat} {cs cs':List Value} {t:TypeId} {B R R':List qZ}:Up R g cs cs' t R'→Up (B++R) g cs cs' t (B++R')
theorem Lk.mem{L:List qZ}{g:Nat}{cs:List Value}{t:TypeId}(h:Lk L g cs t):(g,cs,t)∈L:=by
 induction h with
 |head=>exact .head _
 |tail _ ih=>exact .tail _ ih
 |app _ ih=>exact List.mem_append_right _ ih
theorem Up.mem{L L':List qZ}{g:Nat}{cs cs':List Value}{t:TypeId}(h:Up L g cs cs' t L'):(g,cs,t)∈L:=by
 induction h with
 |head=>exact .head _
 |tail _ ih=>exact .tail _ ih
 |app _ ih=>exact List.mem_append_right _ ih
theorem Up.names{L L':List qZ}{g:Nat}{cs cs':List Value}{t:TypeId}(h:Up L g cs cs' t L'):L'.map (·.1)=L.map (·.1):=by
 induction h with
 |head=>rfl
 |tail _ ih=>simp[ih]
 |app _ ih=>simp[ih]
theorem Up.out{L L':List qZ}{g:Nat}{cs cs':List Value}{t:TypeId}(h:Up L g cs cs' t L')(hn:(L.map (·.1)).Nodup):∀x∈L',x=(g,cs',t)∨(x∈L∧x.1≠g):=by
 induction h with
 |head=>
  intro x hx;rw[List.map_cons,List.nodup_cons]at hn;rcases List.mem_cons.1 hx with rfl|hx
  ·exact .inl rfl
  ·exact .inr ⟨.tail _ hx,fun e=>hn.1 (by rw[←e];exact List.mem_map_of_mem (f:=(·.1)) hx)⟩
 |tail h ih=>
  intro x hx;rw[List.map_cons,List.nodup_cons]at hn;rcases List.mem_cons.1 hx with rfl|hx
  ·exact .inr ⟨.head _,fun e=>hn.1 (by rw[e];exact List.mem_map_of_mem (f:=(·.1)) h.mem)⟩
  ·rcases ih hn.2 x hx with h|h
   ·exact .inl h
   ·exact .inr ⟨.tail _ h.1,h.2⟩
 |app h ih=>
  intro x hx;rw[List.map_append,List.nodup_append]at hn;rcases List.mem_append.1 hx with hx|hx
  ·exact .inr ⟨List.mem_append_left _ hx,fun e=>hn.2.2 _ (List.mem_map_of_mem (f:=(·.1)) hx) _ (List.mem_map_of_mem (f:=(·.1)) h.mem) e⟩
  ·rcases ih hn.2.1 x hx with h|h
   ·exact .inl h
   ·exact .inr ⟨List.mem_append_right _ h.1,h.2⟩
theorem df{W:World}{g:Nat}{o:Obj}(h:W.heap[g]? =some o):g<W.heap.size:=by
 rcases Nat.lt_or_ge g W.heap.size with hlt|hge
 ·exact hlt
 ·rw[Array.getElem?_eq_none hge]at h;cases h
theorem qF.lt{w W:World}{L:List qZ}(h:qF w W L){g:Nat}{cs:List Value}{t:TypeId}(hm:(g,cs,t)∈L):g<W.heap.size:=df (h.rows g cs t hm).2
theorem qo(w:World):qF w w []:=⟨Below.refl _ _,(fun _ _ _ h=>by cases h),List.nodup_nil⟩
theorem qJ{w W:World}{L:List qZ}(h:qF w W L):qF w W.drew L:=⟨h.below.drew,h.rows,h.nodup⟩
theorem zA{w W:World}{L:List qZ}(h:qF w W L)(n:Nat):qF w (W.drewN n) L:=⟨⟨h.below.os,h.below.tape,h.below.output,h.below.size,h.below.block⟩,h.rows,h.nodup⟩
theorem qD{w W W1:World}{L:List qZ}(h:qF w W L)(hb:Below W.heap.size W W1):qF w W1 L:=
 ⟨⟨hb.os.trans h.below.os,hb.tape.trans h.below.tape,hb.output.trans h.below.output,Nat.le_trans h.below.size hb.size,fun k hk=>(hb.block k (Nat.lt_of_lt_of_le hk h.below.size)).trans (h.below.block k hk)⟩,
  fun g cs t hm=>⟨(h.rows g cs t hm).1,(hb.block g (h.lt hm)).trans (h.rows g cs t hm).2⟩,h.nodup⟩
theorem kR{w W:World}{L:List qZ}(h:qF w W L)(cs:List Value)(t:TypeId):qF w (W.alloc (.cells cs.toArray t)) ((W.heap.size,cs,t)::L):=by
 have hb:Below W.heap.size W (W.alloc (.cells cs.toArray t)):=(Below.refl _ W).alloc (Nat.le_refl _) _;have h1:=qD h hb;refine⟨h1.below,fun g c t' hm=> ?_,?_⟩
 ·rcases List.mem_cons.1 hm with e|hm
  ·injection e with e1 e2;injection e2 with e2 e3;subst e1 e2 e3;exact⟨h.below.size,by show(W.heap.push _)[W.heap.size]? =_;simp⟩
  ·exact h1.rows g c t' hm
 ·rw[List.map_cons,List.nodup_cons];refine⟨fun hm=> ?_,h.nodup⟩;obtain⟨⟨g,c,t'⟩,he,e⟩:=List.mem_map.1 hm;have:=h.lt he;simp at e;omega
theorem Vf{w W:World}{L L':List qZ}(h:qF w W L){g:Nat}{cs cs':List Value}{t:TypeId}(hu:Up L g cs cs' t L'):qF w (W.setRow g cs'.toArray) L':=by
 have hr:=h.rows g cs t hu.mem;refine⟨⟨h.below.os,h.below.tape,h.below.output,Nat.le_trans h.below.size jL,fun k hk=>(setRow_other W g k _ qg).trans (h.below.block k hk)⟩,fun g1 c1 t1 hm=> ?_,by rw[hu.names];exact h.nodup⟩;rcases hu.out h.nodup _ hm with e|⟨hm,hne⟩
 ·injection e with e1 e2;injection e2 with e2 e3;subst e1 e2 e3;exact⟨hr.1,setRow_heap W _ _ _ _ _ hr.2⟩
 ·have h1:=h.rows g1 c1 t1 hm;exact⟨h1.1,(setRow_other W g g1 _ hne).trans h1.2⟩
theorem qF.cell{w W:World}{L:List qZ}(h:qF w W L){g:Nat}{cs:List Value}{t:TypeId}(hl:Lk L g cs t)(i:Nat):W.cell? ⟨g,i,none⟩=cs[i]? :=by
 rw[cell_of_row W g i _ t (0,0) (h.rows g cs t hl.mem).2];simp
theorem qF.old{w W:World}{L:List qZ}(h:qF w W L){a:Addr}{v:Value}(hc:w.cell? a=some v):W.cell? a=some v:=(h.below.cell (World.block_lt_of_cell? _ _ hc)).trans hc
inductive Ev:Value→List Value→Prop
 |agg {cs:List Value}:Ev (.agg cs.toArray) cs
 |int {k:IntKind} {n:Int}:Ev (.int k n) [.int k n]
 |bool {b:Bool}:Ev (.bool b) [.bool b]
 |string {s:ByteArray}:Ev (.string s) [.string s]
 |pointer {p:Option Addr}:Ev (.pointer p) [.pointer p]
 |slice {p:Option Addr} {n c:Nat}:Ev (.slice p n c) [.slice p n c]
theorem Ev.eq{v:Value}{cs:List Value}(h:Ev v cs):v.cells=cs.toArray:=by cases h<;>rfl
def jg(cs:List Value)(off:Nat)(new:List Value):List Value:=cs.take off++(new++cs.drop (off+new.length))
theorem Gm{W:World}{g:Nat}{cs:List Value}{t:TypeId}(hg:W.heap[g]? =some (.cells cs.toArray t (0,0))):W.setRow g cs.toArray=W:=by
 have hlt:=df hg;have hv:W.heap[g]= .cells cs.toArray t (0,0):=(Array.getElem?_eq_some_iff.1 hg).2;unfold World.setRow
 cases W with
 |mk heap tape drawn os output=>
  congr 1;apply Array.ext
  ·simp
  ·intro k h1 h2;simp only[Array.getElem_modify];split
   ·rename_i hk;subst hk;simp at hv;simp[hv]
   ·rfl
theorem Gp(cs:List Value)(off i:Nat)(v:Value)(rest:List Value)(h:off+i<cs.length):jg (cs.set (off+i) v) (off+(i+1)) rest=jg cs (off+i) (v::rest):=by
 unfold jg;rw[List.take_set,List.drop_set,if_pos qg,←Nat.add_assoc,List.take_succ_eq_append_getElem h,List.set_append,List.length_take,Nat.min_eq_left qg,if_neg qg,Nat.sub_self,List.append_assoc];simp only[List.set_cons_zero,List.cons_append,List.nil_append,List.length_cons];congr 4;omega
theorem gU{P:Program}(g off:Nat)(t:TypeId):∀(vs:List Value) (i:Nat) (cs:List Value) (W:World),W.heap[g]? =some (.cells cs.toArray t (0,0))→off+i+vs.length≤cs.length→(∀v∈vs,v.oneCell'=true)→
 (storeCells ⟨g,off,none⟩ vs i).run P W= .ok () (W.setRow g (jg cs (off+i) vs).toArray)
 | [],i,cs,W,hg,hl,_=>by
   have e:jg cs (off+i) []=cs:=by simp[jg]
   rw[e,Gm hg];rfl
 |v::rest,i,cs,W,hg,hl,h1=>by
  have hi:off+i<cs.length:=by simp at hl;omega
  have hadd:(⟨g,off,none⟩:Addr).add i=⟨g,off+i,none⟩:=by unfold Addr.add;split<;>simp_all
  have hcell:W.cell? ⟨g,off+i,none⟩=some cs[off+i]:=by rw[cell_of_row W g _ _ t (0,0) hg];simp[hi]
  have hfro:W.frozen? ⟨g,off+i,none⟩=false:=by simp[World.frozen?,hg]
  have hst:(store ((⟨g,off,none⟩:Addr).add i) v).run P W= .ok () (W.setRow g (cs.set (off+i) v).toArray):=by
   rw[hadd,run_store P W _ v _ (h1 v jL),hcell];simp only[hfro,setCell_eq_setRow W g (off+i) _ t (0,0) v hg];simp
  have ih:=gU (P:=P) g off t rest (i+1) (cs.set (off+i) v) (W.setRow g (cs.set (off+i) v).toArray) (setRow_heap W g _ _ t _ hg) (by simp at hl⊢;omega) (fun x hx=>h1 x (by simp[hx]));simp only[storeCells,Sem.run_bind,hst,Result.andThen_ok,ih,setRow_setRow,Gp cs off i v rest hi]
section
variable{P:Program}{ops:Array Oper}{Q:Exit→Act→World→Prop}{a:Act}{w W:World}{L:List qZ}{rest:List Oper}{o:Oper}
theorem kS(hM:qF w W L){g off:Nat}{cs cs':List Value}{t ty:TypeId}{v:Value}{L':List qZ}(hu:Up L g cs cs' t L')(hi:(P.info? ty).map (·.size)=some v.cells.size)
 (hl:off+v.cells.size≤cs.length) (h1:∀x∈v.cells.toList,x.oneCell'=true) (hc:jg cs off v.cells.toList=cs'):
 (storeVar ty ⟨g,off,none⟩ v).run P W= .ok () (W.setRow g cs'.toArray):=by
 subst hc;have:=gU (P:=P) g off t v.cells.toList 0 cs W (hM.rows g cs t hu.mem).2 (by simpa using hl) h1
 cases hq:P.info? ty with
 |none=>simp[hq]at hi
 |some i=>
  have hs:v.cells.size=i.size:=by simp[hq]at hi;omega
  simp[storeVar,sizeOf,typeInfo,hq,hs,this]
theorem Gq(hM:qF w W L)(hg:o.guard=none){ty:TypeId}{x y:Operand}(ho:o.op= .store ty x y){g off:Nat}(hx:a.eval x= .pointer (some ⟨g,off,none⟩)){cells:Array Value}(hy:(a.eval y).cells=cells)
 {cs cs':List Value} {t:TypeId} {L':List qZ} (hu:Up L g cs cs' t L') {n:Nat} (hi:(P.info? ty).map (·.size)=some n) (hn:cells.size=n)
 (hl:off+n≤cs.length) (h1:∀x∈cells.toList,x.oneCell'=true) (hc:jg cs off cells.toList=cs')
 (h:∀W',qF w W' L'→wpList P ops Q rest (a.put o.dst undef) W'):wpList P ops Q (o::rest) a W:=
 wpList_plain hg fun _ hK=>by
  subst hy;have hr:=kS hM hu (by rw[hi,hn]) qg h1 hc;unfold Oper.wp execOp;simp only[ho,hx,Instr.storeAt,Instr.sureAddr,Sem.run_bind,Sem.run_pure,Result.andThen_ok,hr];exact hK _ _ (h _ (Vf hM hu))
theorem zL(ty:TypeId)(b off n:Nat)(C:List Value)(hg:∀w,(isAgg ty).run P w= .ok true w)(hz:(P.info? ty).map (·.size)=some n)(hn:C.length=n)
 (hc:∀(j:Nat) (v:Value),C[j]? =some v→W.cell? ⟨b,off+j,none⟩=some v):(loadVar ty ⟨b,off,none⟩).run P W= .ok (.agg C.toArray) W:=by
 have hl:=run_loadCells_list (P:=P) W ⟨b,off,none⟩ C (fun j v hv=>by
  have hadd:(⟨b,off,none⟩:Addr).add j=⟨b,off+j,none⟩:=by unfold Addr.add;split<;>simp_all
  rw[hadd]
  exact hc j v hv)
 cases hq:P.info? ty with
 |none=>simp[hq]at hz
 |some i=>
  have hs:i.size=C.length:=by simp[hq]at hz;omega
  simp[loadVar,sizeOf,typeInfo,hq,hg,hs,hl]
theorem qF.part(hM:qF w W L){g:Nat}{cs:List Value}{t:TypeId}(hl:Lk L g cs t){off n:Nat}{C:List Value}(hC:(cs.drop off).take n=C):∀(j:Nat) (v:Value),C[j]? =some v→W.cell? ⟨g,off+j,none⟩=some v:=by
 intro j v hj;rw[←hC,List.getElem?_take]at hj;split at hj
 ·rw[List.getElem?_drop]at hj;rw[hM.cell hl];exact hj
 ·cases hj
theorem dg(hM:qF w W L)(hgd:o.guard=none){ty:TypeId}{x:Operand}(ho:o.op= .load ty x){g off:Nat}(hx:a.eval x= .pointer (some ⟨g,off,none⟩))
 {cs:List Value} {t:TypeId} (hl:Lk L g cs t) {n:Nat} (hg:∀w,(isAgg ty).run P w= .ok true w) (hz:(P.info? ty).map (·.size)=some n) {C:List Value} (hC:(cs.drop off).take n=C) (hn:C.length=n)
 (h:wpList P ops Q rest (a.put o.dst (.agg C.toArray)) W):wpList P ops Q (o::rest) a W:=
 wpList_plain hgd fun _ hK=>by
  unfold Oper.wp execOp;simp only[ho,hx,Instr.loadAt,Instr.sureAddr,Sem.run_bind,Sem.run_pure,Result.andThen_ok,zL ty g off n C hg hz hn (hM.part hl hC)];exact hK _ _ h
theorem Ju(hgd:o.guard=none){ty:TypeId}{x:Operand}(ho:o.op= .load ty x){g off:Nat}(hx:a.eval x= .pointer (some ⟨g,off,none⟩))
 (hg:∀w,(isAgg ty).run P w= .ok false w) {v:Value} (hc:W.cell? ⟨g,off,none⟩=some v)
 (h:wpList P ops Q rest (a.put o.dst v) W):wpList P ops Q (o::rest) a W:=
 wpList_plain hgd fun _ hK=>by
  unfold Oper.wp execOp;simp only[ho,hx,Instr.loadAt,Instr.sureAddr,Sem.run_bind,Sem.run_pure,Result.andThen_ok,loadVar,hg];have hl:(load ⟨g,off,none⟩).run P W= .ok v W:=by simp[hc]
  simp[hl];exact hK _ _ h
theorem iS{v:Value}{cs:List Value}{t:TypeId}(hM:qF w W L)(hgd:o.guard=none){ty:TypeId}{x:Operand}(ho:o.op= .load ty x){g off:Nat}(hx:a.eval x= .pointer (some ⟨g,off,none⟩))
 (hl:Lk L g cs t) (hg:∀w,(isAgg ty).run P w= .ok false w) (hv:cs[off]? =some v)
 (h:wpList P ops Q rest (a.put o.dst v) W):wpList P ops Q (o::rest) a W:=
  Ju hgd ho hx hg ((hM.cell hl off).trans hv) h
theorem jr(hM:qF w W L)(hgd:o.guard=none){ty:TypeId}{x:Operand}(ho:o.op= .load ty x){g off:Nat}(hx:a.eval x= .pointer (some ⟨g,off,none⟩))
 (hg:∀w,(isAgg ty).run P w= .ok false w) {v:Value} (hc:w.cell? ⟨g,off,none⟩=some v)
 (h:wpList P ops Q rest (a.put o.dst v) W):wpList P ops Q (o::rest) a W:=
 Ju hgd ho hx hg (hM.old hc) h
theorem xY(ty:TypeId)(v:Value):(newVar ty v).run P W= .ok ⟨W.heap.size,0,none⟩ (W.alloc (.cells v.cells ty)):=by
 rfl
theorem iT{z:Value}{cs:List Value}(hM:qF w W L)(hg:o.guard=none){ty:TypeId}(ho:o.op= .alloc ty)(hz:∀w,(zeroValue ty).run P w= .ok z w)(hc:z.cells=cs.toArray)
 (h:∀g W',qF w W' ((g,cs,ty)::L)→wpList P ops Q rest (a.put o.dst (.pointer (some ⟨g,0,none⟩))) W'):wpList P ops Q (o::rest) a W:=
  wpList_plain hg fun _ hK=>by
   unfold Oper.wp execOp;simp only[ho,Instr.alloc,Sem.run_bind,Sem.run_pure,Result.andThen_ok,hz,xY,hc];exact hK _ _ (h _ _ (kR hM cs ty))
theorem Fz{cs:List Value}(hM:qF w W L)(hg:o.guard=none){ty:TypeId}{x:Operand}(ho:o.op= .box ty x)(hc:Ev (a.eval x) cs)
 (h:∀g W',qF w W' ((g,cs,ty)::L)→wpList P ops Q rest (a.put o.dst (.pointer (some ⟨g,0,none⟩))) W'):wpList P ops Q (o::rest) a W:=
  wpList_plain hg fun _ hK=>by
   unfold Oper.wp execOp;simp only[ho,Instr.box,Sem.run_bind,Sem.run_pure,Result.andThen_ok,xY,hc.eq];exact hK _ _ (h _ _ (kR hM cs ty))
theorem yA{ty:TypeId}{n:Nat}(W:World)(h:∀w,(sizeOf ty).run P w= .ok n w):(P.info? ty).map (·.size)=some n:=by
 have h1:=h W
 cases hq:P.info? ty with
 |none=>simp[sizeOf,typeInfo,hq]at h1
 |some i=>
  simp[sizeOf,typeInfo,hq]at h1;simp[h1]
inductive Part:List Value→Nat→Nat→List Value→Prop
 |nil {cs:List Value}:Part cs 0 0 []
 |take {cs C:List Value} {c:Value} {n:Nat}:Part cs 0 n C→Part (c::cs) 0 (n+1) (c::C)
 |drop {cs C:List Value} {c:Value} {off n:Nat}:Part cs off n C→Part (c::cs) (off+1) n C
theorem Part.eq{cs C:List Value}{off n:Nat}(h:Part cs off n C):(cs.drop off).take n=C∧C.length=n:=by
 induction h with
 |nil=>simp
 |take _ ih=>simpa using ih
 |drop _ ih=>simpa using ih
inductive UX:List Value→Nat→List Value→List Value→Prop
 |done {cs:List Value}:UX cs 0 [] cs
 |put {cs cs' new:List Value} {c v:Value}:UX cs 0 new cs'→UX (c::cs) 0 (v::new) (v::cs')
 |skip {cs cs' new:List Value} {c:Value} {off:Nat}:UX cs off new cs'→UX (c::cs) (off+1) new (c::cs')
theorem UX.eq{cs cs' new:List Value}{off:Nat}(h:UX cs off new cs'):jg cs off new=cs'∧off+new.length≤cs.length:=by
 induction h with
 |done=>simp[jg]
 | @put cs cs' new c v h ih=>
   have h1:=ih.1;simp only[jg,List.take_zero,List.nil_append,Nat.zero_add]at h1;refine⟨?_,by have:=ih.2;simp at this⊢;omega⟩;simp only[jg,List.take_zero,List.nil_append,Nat.zero_add,List.length_cons,List.drop_succ_cons,List.cons_append];rw[h1]
 | @skip cs cs' new c off h ih=>
   have h1:=ih.1;simp only[jg]at h1;refine⟨?_,by have:=ih.2;simp;omega⟩;simp only[jg,List.take_succ_cons,List.cons_append];rw[show off+1+new.length=off+new.length+1 by omega,List.drop_succ_cons,h1]
theorem iU{new:List Value}{cs:List Value}{cs':List Value}{t:TypeId}{L':List qZ}{n:Nat}(hM:qF w W L)(hg:o.guard=none){ty:TypeId}{x y:Operand}(ho:o.op= .store ty x y){g off:Nat}(hx:a.eval x= .pointer (some ⟨g,off,none⟩))(hy:Ev (a.eval y) new)
 (hk:Lk L g cs t) (hc:UX cs off new cs') (hu:Up L g cs cs' t L') (hi:∀w,(sizeOf ty).run P w= .ok n w) (hn:new.length=n) (h1:∀x∈new,x.oneCell'=true)
 (h:∀W',qF w W' L'→wpList P ops Q rest (a.put o.dst undef) W'):wpList P ops Q (o::rest) a W:=
  Gq hM hg ho hx hy.eq hu (yA W hi) (by simpa using hn) (by have:=hc.eq.2;omega) (by simpa using h1) (by simpa using hc.eq.1) h
theorem Jv{v:Value}{cs:List Value}{t:TypeId}{K:Act→World→Prop}{ty:TypeId}{x:Operand}(hM:qF w W L)(ho:o.op= .load ty x){g off:Nat}(hx:a.eval x= .pointer (some ⟨g,off,none⟩))
 (hl:Lk L g cs t) (hg:∀w,(isAgg ty).run P w= .ok false w) (hv:cs[off]? =some v) (h:K (a.put o.dst v) W):o.wp P a W K Q:=by
  unfold Oper.wp execOp;simp only[ho,hx,Instr.loadAt,Instr.sureAddr,Sem.run_bind,Sem.run_pure,Result.andThen_ok,loadVar,hg];have hl:(load ⟨g,off,none⟩).run P W= .ok v W:=by simp[(hM.cell hl off).trans hv]
  simp[hl];exact h
theorem Vg{cs:List Value}{t:TypeId}{n:Nat}{C:List Value}{K:Act→World→Prop}{ty:TypeId}{x:Operand}(hM:qF w W L)(ho:o.op= .load ty x){g off:Nat}(hx:a.eval x= .pointer (some ⟨g,off,none⟩))
 (hl:Lk L g cs t) (hg:∀w,(isAgg ty).run P w= .ok true w) (hz:∀w,(sizeOf ty).run P w= .ok n w) (hC:Part cs off n C) (h:K (a.put o.dst (.agg C.toArray)) W):o.wp P a W K Q:=by
 unfold Oper.wp execOp;simp only[ho,hx,Instr.loadAt,Instr.sureAddr,Sem.run_bind,Sem.run_pure,Result.andThen_ok,zL ty g off n C hg (yA W hz) hC.eq.2 (hM.part hl hC.eq.1)];exact h
theorem iV{cs:List Value}{t:TypeId}{v:Value}{ty:TypeId}{x:Operand}(hM:qF w W L)(ho:o.op= .load ty x){g off:Nat}(hx:a.eval x= .pointer (some ⟨g,off,none⟩))(hw:Region.wanted o (yielded ops a.tmps)=true)
 (hl:Lk L g cs t) (hg:∀w,(isAgg ty).run P w= .ok false w) (hv:cs[off]? =some v) (h:wpList P ops Q rest (a.put o.dst v) W):wpList P ops Q (o::rest) a W:=
 wpList_step fun _ hK=>by
  rw[if_pos hw];exact Jv hM ho hx hl hg hv (hK _ _ h)
theorem NR{cs:List Value}{t:TypeId}{n:Nat}{C:List Value}{ty:TypeId}{x:Operand}(hM:qF w W L)(ho:o.op= .load ty x){g off:Nat}(hx:a.eval x= .pointer (some ⟨g,off,none⟩))(hw:Region.wanted o (yielded ops a.tmps)=true)
 (hl:Lk L g cs t) (hg:∀w,(isAgg ty).run P w= .ok true w) (hz:∀w,(sizeOf ty).run P w= .ok n w) (hC:Part cs off n C) (h:wpList P ops Q rest (a.put o.dst (.agg C.toArray)) W):wpList P ops Q (o::rest) a W:=
 wpList_step fun _ hK=>by
  rw[if_pos hw];exact Vg hM ho hx hl hg hz hC (hK _ _ h)
theorem tM(h1:Region.wanted o (yielded ops a.tmps)=true→wpList P ops Q (o::rest) a W)(h2:Region.wanted o (yielded ops a.tmps)=false→wpList P ops Q rest (a.put o.dst undef) W):wpList P ops Q (o::rest) a W:=by
 rcases h:Region.wanted o (yielded ops a.tmps)with _|_
 ·exact wpList_step fun _ hK=>by
   rw[if_neg (by rw[h];simp)];exact hK _ _ (h2 h)
 ·exact h1 h
theorem wO{fn:Func}{t:Tmp}{ty tg:TypeId}(hM:qF w W L)(h:fn.results= #[.cell t ty])(tmps:Array Value){g:Nat}{cs:List Value}(ht:tmps.getD t undef= .pointer (some ⟨g,0,none⟩))(hl:Lk L g cs tg)
 (hg:∀w,(isAgg ty).run P w= .ok true w) (hz:∀w,(sizeOf ty).run P w= .ok cs.length w):(results fn tmps).run P W= .ok (.agg cs.toArray) W:=by
 have h1:=zL (P:=P) (W:=W) ty g 0 cs.length cs hg (yA W hz) rfl (fun j v hj=>by rw[Nat.zero_add,hM.cell hl];exact hj);have ht':tmps[t]?.getD undef= .pointer (some ⟨g,0,none⟩):=by simpa using ht
 simp[results,h,ht',asAddr,h1]
theorem wP{fn:Func}{t u:Tmp}{ty tg:TypeId}(hM:qF w W L)(h:fn.results= #[.cell t ty,.tmp u])(tmps:Array Value){g:Nat}{cs:List Value}(ht:tmps.getD t undef= .pointer (some ⟨g,0,none⟩))(hl:Lk L g cs tg)
 (hg:∀w,(isAgg ty).run P w= .ok true w) (hz:∀w,(sizeOf ty).run P w= .ok cs.length w) {v2:Value} (hv:tmps.getD u undef=v2):(results fn tmps).run P W= .ok (.tuple #[.agg cs.toArray,v2]) W:=by
 subst hv;have h1:=zL (P:=P) (W:=W) ty g 0 cs.length cs hg (yA W hz) rfl (fun j v hj=>by rw[Nat.zero_add,hM.cell hl];exact hj);have ht':tmps[t]?.getD undef= .pointer (some ⟨g,0,none⟩):=by simpa using ht
 simp[results,h,ht',asAddr,h1]
theorem wQ{fn:Func}{t u v:Tmp}{ty tg:TypeId}(hM:qF w W L)(h:fn.results= #[.cell t ty,.tmp u,.tmp v])(tmps:Array Value){g:Nat}{cs:List Value}(ht:tmps.getD t undef= .pointer (some ⟨g,0,none⟩))(hl:Lk L g cs tg)
 (hg:∀w,(isAgg ty).run P w= .ok true w) (hz:∀w,(sizeOf ty).run P w= .ok cs.length w) {v2 v3:Value} (hv:tmps.getD u undef=v2) (hv3:tmps.getD v undef=v3):(results fn tmps).run P W= .ok (.tuple #[.agg cs.toArray,v2,v3]) W:=by
 subst hv hv3;have h1:=zL (P:=P) (W:=W) ty g 0 cs.length cs hg (yA W hz) rfl (fun j v hj=>by rw[Nat.zero_add,hM.cell hl];exact hj);have ht':tmps[t]?.getD undef= .pointer (some ⟨g,0,none⟩):=by simpa using ht
 simp[results,h,ht',asAddr,h1]
end
section
variable{P:Program}{a:Act}{w W:World}{L:List qZ}{fn:Func}{R:Ending→World→Prop}
theorem uX{cs:List Value}{tg:TypeId}{t:Tmp}{ty:TypeId}{g n:Nat}(hM:qF w W L)(h:fn.results= #[.cell t ty])(ht:a.tmps.getD t undef= .pointer (some ⟨g,0,none⟩))(hg:∀w,(isAgg ty).run P w= .ok true w)(hz:∀w,(sizeOf ty).run P w= .ok n w)
 (hd:a.defers=[]) (hl:Lk L g cs tg) (hn:cs.length=n) (hR:R (.returned (.agg cs.toArray)) W):bodyPost P fn R .ret a W:=by
 subst hn;exact bodyPost_ret (wO hM h _ ht hl hg hz) hd hR
theorem qU{cs:List Value}{tg:TypeId}{t u:Tmp}{ty:TypeId}{g n:Nat}{v2:Value}(hM:qF w W L)(h:fn.results= #[.cell t ty,.tmp u])(ht:a.tmps.getD t undef= .pointer (some ⟨g,0,none⟩))(hg:∀w,(isAgg ty).run P w= .ok true w)(hz:∀w,(sizeOf ty).run P w= .ok n w)
 (hv:a.tmps.getD u undef=v2) (hd:a.defers=[]) (hl:Lk L g cs tg) (hn:cs.length=n) (hR:R (.returned (.tuple #[.agg cs.toArray,v2])) W):bodyPost P fn R .ret a W:=by
 subst hn;exact bodyPost_ret (wP hM h _ ht hl hg hz hv) hd hR
theorem uq{cs:List Value}{tg:TypeId}{t u v:Tmp}{ty:TypeId}{g n:Nat}{v2 v3:Value}(hM:qF w W L)(h:fn.results= #[.cell t ty,.tmp u,.tmp v])(ht:a.tmps.getD t undef= .pointer (some ⟨g,0,none⟩))(hg:∀w,(isAgg ty).run P w= .ok true w)(hz:∀w,(sizeOf ty).run P w= .ok n w)
 (hv:a.tmps.getD u undef=v2) (hv3:a.tmps.getD v undef=v3) (hd:a.defers=[]) (hl:Lk L g cs tg) (hn:cs.length=n) (hR:R (.returned (.tuple #[.agg cs.toArray,v2,v3])) W):bodyPost P fn R .ret a W:=by
 subst hn;exact bodyPost_ret (wQ hM h _ ht hl hg hz hv hv3) hd hR
end
theorem yK{ty:TypeId}{P:Program}{ops:Array Oper}{rest:List Oper}{d:Option Tmp}{x:Operand}{t:TypeId}{p:String}{l:Array Edge}{g:Option (Nat×Bool)}{Q:Exit→Act→World→Prop}{a:Act}{w:World}
 (h:wpList P ops Q ({dst:=d,op:= .load ty x,type:=t,pos:=p,after:=l,guard:=g}::rest) a w):wpList P ops Q ({dst:=d,op:= .load ty x,type:=t,pos:=p,after:=l,guard:=g}::rest) a w:=h
theorem yf{l:List Value}(h:l.all (·.oneCell')=true):∀x∈l,x.oneCell'=true:=fun x hx=>List.all_eq_true.1 h x hx
theorem QL{ty:TypeId}{P:Program}{ops:Array Oper}{rest:List Oper}{d:Option Tmp}{x:Operand}{t:TypeId}{p:String}{l:Array Edge}{g:Nat×Bool}{Q:Exit→Act→World→Prop}{a:Act}{w:World}
 (h:wpList P ops Q ({dst:=d,op:= .load ty x,type:=t,pos:=p,after:=l,guard:=some g}::rest) a w):wpList P ops Q ({dst:=d,op:= .load ty x,type:=t,pos:=p,after:=l,guard:=some g}::rest) a w:=h
def Held(w:World)(K:List qZ)(W:World):Prop:=∃L,qF w W L∧∀b∈K,b∈L
theorem jh{w W:World}{L K:List qZ}(hM:qF w W L)(hK:∀b∈K,b∈L):Held w K W:=⟨L,hM,hK⟩
theorem Held.cell{w W:World}{K:List qZ}(h:Held w K W){g:Nat}{cs:List Value}{t:TypeId}(hl:Lk K g cs t)(i:Nat):W.cell? ⟨g,i,none⟩=cs[i]? :=by
 obtain⟨L,hM,hK⟩:=h;rw[cell_of_row W g i _ t (0,0) (hM.rows g cs t (hK _ hl.mem)).2];simp
theorem Held.old{w W:World}{K:List qZ}(h:Held w K W){a:Addr}{v:Value}(hc:w.cell? a=some v):W.cell? a=some v:=by
 obtain⟨L,hM,hK⟩:=h;exact hM.old hc
inductive tN:List Oper→Nat→Oper→Prop
 |head {o:Oper} {l:List Oper}:tN (o::l) 0 o
 |tail {o x:Oper} {l:List Oper} {i:Nat}:tN l i o→tN (x::l) (i+1) o
theorem tN.get{l:List Oper}{i:Nat}{o:Oper}(h:tN l i o):l.toArray[i]? =some o:=by
 induction h with
 |head=>simp
 |tail _ ih=>simpa using ih
section
variable{P:Program}{l:List Oper}{Q:Exit→Act→World→Prop}{a:Act}{w W:World}{L K:List qZ}{o:Oper}
theorem ZY{id:Nat}(hM:qF w W L)(hm:P.follows .mixedOrders=true)(K:List qZ)(hK:∀b∈K,b∈L)
 (h:∀W',qF w W' L→wpAnyH P .any l.toArray Q (Held w K) l.length (Array.replicate l.length false) a W'):(Code.region id l.toArray true).wp P Q a W:=
 wp_region_held_drew hm (jh (qJ hM) hK) (fun _=>by simpa using h _ (qJ hM))
inductive Dl:List qZ→Nat→List qZ→Prop
 |head {g:Nat} {cs:List Value} {t:TypeId} {L:List qZ}:Dl ((g,cs,t)::L) g L
 |tail {g:Nat} {e:qZ} {L K:List qZ}:Dl L g K→Dl (e::L) g (e::K)
 |app {g:Nat} {B R K:List qZ}:Dl R g K→Dl (B++R) g (B++K)
theorem Dl.mem{L K:List qZ}{g:Nat}(h:Dl L g K):∀b∈K,b∈L:=by
 induction h with
 |head=>exact fun b hb=> .tail _ hb
 |tail _ ih=>
  intro b hb;rcases List.mem_cons.1 hb with rfl|hb
  ·exact .head _
  ·exact .tail _ (ih b hb)
 |app _ ih=>
  intro b hb;rcases List.mem_append.1 hb with hb|hb
  ·exact List.mem_append_left _ hb
  ·exact List.mem_append_right _ (ih b hb)
theorem Dl.there{L K:List qZ}{g:Nat}(h:Dl L g K):∃cs t,(g,cs,t)∈L:=by
 induction h with
 |head=>exact⟨_,_,.head _⟩
 |tail _ ih=>
  obtain⟨cs,t,h⟩:=ih;exact⟨cs,t,.tail _ h⟩
 |app _ ih=>
  obtain⟨cs,t,h⟩:=ih;exact⟨cs,t,List.mem_append_right _ h⟩
theorem Dl.ne{L K:List qZ}{g:Nat}(h:Dl L g K)(hn:(L.map (·.1)).Nodup):∀b∈K,b.1≠g:=by
 induction h with
 |head=>
  intro b hb e;rw[List.map_cons,List.nodup_cons]at hn;exact hn.1 (by rw[←e];exact List.mem_map_of_mem (f:=(·.1)) hb)
 |tail h ih=>
  rw[List.map_cons,List.nodup_cons]at hn;intro b hb;rcases List.mem_cons.1 hb with rfl|hb
  ·intro e;obtain⟨cs,t,hm⟩:=h.there;exact hn.1 (by rw[e];exact List.mem_map_of_mem (f:=(·.1)) hm)
  ·exact ih hn.2 b hb
 |app h ih=>
  rw[List.map_append,List.nodup_append]at hn;intro b hb e;rcases List.mem_append.1 hb with hb|hb
  ·obtain⟨cs,t,hm⟩:=h.there;exact hn.2.2 _ (List.mem_map_of_mem (f:=(·.1)) hb) _ (List.mem_map_of_mem (f:=(·.1)) hm) e
  ·exact ih hn.2.1 b hb e
theorem Up.keep{L L':List qZ}{g:Nat}{cs cs':List Value}{t:TypeId}(h:Up L g cs cs' t L'){b:qZ}(hb:b∈L)(hne:b.1≠g):b∈L':=by
 induction h with
 |head=>
  rcases List.mem_cons.1 hb with rfl|hb
  ·exact absurd rfl hne
  ·exact .tail _ hb
 |tail _ ih=>
  rcases List.mem_cons.1 hb with rfl|hb
  ·exact .head _
  ·exact .tail _ (ih hb hne)
 |app _ ih=>
  rcases List.mem_append.1 hb with hb|hb
  ·exact List.mem_append_left _ hb
  ·exact List.mem_append_right _ (ih hb hne)
theorem wR{w W:World}{L K:List qZ}{g:Nat}{cs:List Value}{t:TypeId}(hM:qF w W ((g,cs,t)::L))(hK:∀b∈K,b∈L):∀b∈K,b.1≠g:=by
 intro b hb e;have hn:=hM.nodup;rw[List.map_cons,List.nodup_cons]at hn;exact hn.1 (by rw[←e];exact List.mem_map_of_mem (f:=(·.1)) (hK b hb))
theorem VL{w W:World}{e:qZ}{L K:List qZ}(hM:qF w W (e::L))(hK:∀b∈K,b∈L):∀b∈K,b∈e::L:=fun b hb=> .tail _ (hK b hb)
theorem gV{K:List qZ}{id:Nat}(hM:qF w W L)(hm:P.follows .mixedOrders=true)(x:Operand){g off:Nat}(hx:a.eval x= .pointer (some ⟨g,off,none⟩))(hd:Dl L g K)
 (h:∀W',qF w W' L→(∀b∈K,b∈L)→(∀b∈K,b.1≠g)→wpAnyH P .any l.toArray Q (Held w K) l.length (Array.replicate l.length false) a W'):(Code.region id l.toArray true).wp P Q a W:=
 ZY hM hm K hd.mem (fun W' hM'=>h W' hM' hd.mem (hd.ne hM.nodup))
theorem gW{id:Nat}(hM:qF w W L)(hm:P.follows .mixedOrders=true)
 (h:∀W',qF w W' L→(∀b∈L,b∈L)→wpAnyH P .any l.toArray Q (Held w L) l.length (Array.replicate l.length false) a W'):(Code.region id l.toArray true).wp P Q a W:=
 ZY hM hm L (fun _ h=>h) (fun W' hM'=>h W' hM' (fun _ h=>h))
variable{fuel:Nat}{listed:Array Bool}
theorem NS{cs:List Value}{t:TypeId}{n:Nat}{C:List Value}(hM:qF w W L)(hK:∀b∈K,b∈L){i:Nat}(hn:tN l i o)(hs:Region.noSelect l.toArray=true)(hf:Region.free .any l.toArray listed i=true)(hr:(Region.ready .any l.toArray listed).contains i=true)
 (hgd:o.guard=none) {ty:TypeId} {x:Operand} (ho:o.op= .load ty x) {g off:Nat} (hx:a.eval x= .pointer (some ⟨g,off,none⟩))
 (hl:Lk K g cs t) (hg:∀w,(isAgg ty).run P w= .ok true w) (hz:∀w,(sizeOf ty).run P w= .ok n w) (hC:Part cs off n C)
 (hQ:∀c a w v,Q (.panic c) (a.put o.dst v) w→Q (.panic c) a w)
 (h:wpAnyH P .any l.toArray Q (Held w K) fuel (listed.setIfInBounds i true) (a.put o.dst (.agg C.toArray)) W):wpAnyH P .any l.toArray Q (Held w K) (fuel+1) listed a W:=
  wpAnyH_take hn.get hs hf hr (fun c a w=>hQ c a w _) (.inl ⟨by simp[Region.wanted,hgd],fun W1 hS=>by
   unfold execOp
   have hp:∀(j:Nat) (v:Value),C[j]? =some v→W1.cell? ⟨g,off+j,none⟩=some v:=by
    intro j v hj;rw[←hC.eq.1,List.getElem?_take]at hj;split at hj
    ·rw[List.getElem?_drop]at hj;rw[hS.cell hl];exact hj
    ·cases hj
   simp only[ho,hx,Instr.loadAt,Instr.sureAddr,Sem.run_bind,Sem.run_pure,Result.andThen_ok,zL ty g off n C hg (yA W1 hz) hC.eq.2 hp]⟩) (jh hM hK) h
theorem iW{v:Value}{cs:List Value}{t:TypeId}(hM:qF w W L)(hK:∀b∈K,b∈L){i:Nat}(hn:tN l i o)(hs:Region.noSelect l.toArray=true)(hf:Region.free .any l.toArray listed i=true)(hr:(Region.ready .any l.toArray listed).contains i=true)
 (hgd:o.guard=none) {ty:TypeId} {x:Operand} (ho:o.op= .load ty x) {g off:Nat} (hx:a.eval x= .pointer (some ⟨g,off,none⟩))
 (hl:Lk K g cs t) (hg:∀w,(isAgg ty).run P w= .ok false w) (hv:cs[off]? =some v)
 (hQ:∀c a w v,Q (.panic c) (a.put o.dst v) w→Q (.panic c) a w)
 (h:wpAnyH P .any l.toArray Q (Held w K) fuel (listed.setIfInBounds i true) (a.put o.dst v) W):wpAnyH P .any l.toArray Q (Held w K) (fuel+1) listed a W:=
  wpAnyH_take hn.get hs hf hr (fun c a w=>hQ c a w _) (.inl ⟨by simp[Region.wanted,hgd],fun W1 hS=>by
   unfold execOp;have hl1:(load ⟨g,off,none⟩).run P W1= .ok v W1:=by simp[(hS.cell hl off).trans hv]
   simp only[ho,hx,Instr.loadAt,Instr.sureAddr,Sem.run_bind,Sem.run_pure,Result.andThen_ok,loadVar,hg]
   simp[hl1]⟩) (jh hM hK) h
theorem NT{v:Value}(hM:qF w W L)(hK:∀b∈K,b∈L){i:Nat}(hn:tN l i o)(hs:Region.noSelect l.toArray=true)(hf:Region.free .any l.toArray listed i=true)(hr:(Region.ready .any l.toArray listed).contains i=true)
 (hgd:o.guard=none) (hv:∀W,(execOp a.eval o).run P W= .ok (.value v) W)
 (hQ:∀c a w v,Q (.panic c) (a.put o.dst v) w→Q (.panic c) a w)
 (h:wpAnyH P .any l.toArray Q (Held w K) fuel (listed.setIfInBounds i true) (a.put o.dst v) W):wpAnyH P .any l.toArray Q (Held w K) (fuel+1) listed a W:=
  wpAnyH_take hn.get hs hf hr (fun c a w=>hQ c a w _) (.inl ⟨by simp[Region.wanted,hgd],fun W1 _=>hv W1⟩) (jh hM hK) h
theorem kT{i:Nat}(hn:tN l i o)(hr:Region.ready .any l.toArray listed=[i])(hgd:o.guard=none)
 (h:∀K':Act→World→Prop,Shut (∀a w1,Held w K w1→wpAnyH P .any l.toArray Q (Held w K) fuel (listed.setIfInBounds i true) a w1→K' a w1)→Oper.wp P o a W K' Q):wpAnyH P .any l.toArray Q (Held w K) (fuel+1) listed a W:=
 wpAnyH_ready hr jL (AllReadyH.cons hn.get (fun K' hK=>by
  rw[if_pos (by simp[Region.wanted,hgd])]
  exact h K' (fun a w1 h1 h2=>hK.out a w1 h1 (fun _=>h2))) AllReadyH.nil)
theorem vC{new:List Value}{cs:List Value}{cs':List Value}{t:TypeId}{L':List qZ}{n:Nat}(hM:qF w W L){i:Nat}(hn:tN l i o)(hr:Region.ready .any l.toArray listed=[i])(hgd:o.guard=none){ty:TypeId}{x y:Operand}(ho:o.op= .store ty x y){g off:Nat}(hx:a.eval x= .pointer (some ⟨g,off,none⟩))(hy:Ev (a.eval y) new)
 (hk:Lk L g cs t) (hc:UX cs off new cs') (hu:Up L g cs cs' t L') (hi:∀w,(sizeOf ty).run P w= .ok n w) (hl:new.length=n) (h1:∀x∈new,x.oneCell'=true)
 (hK:∀b∈K,b∈L) (hne:∀b∈K,b.1≠g)
 (h:∀W',qF w W' L'→(∀b∈K,b∈L')→wpAnyH P .any l.toArray Q (Held w K) fuel (listed.setIfInBounds i true) (a.put o.dst undef) W'):wpAnyH P .any l.toArray Q (Held w K) (fuel+1) listed a W:=
  kT hn hr hgd (fun K' hK'=>by
   have hr:=kS (P:=P) (ty:=ty) (off:=off) (v:=a.eval y) hM hu (by rw[yA W hi,hy.eq,←hl];simp) (by rw[hy.eq];simpa using hc.eq.2) (by rw[hy.eq];simpa using h1) (by rw[hy.eq];simpa using hc.eq.1);unfold Oper.wp execOp;simp only[ho,hx,Instr.storeAt,Instr.sureAddr,Sem.run_bind,Sem.run_pure,Result.andThen_ok,hr];have hM':=Vf hM hu;have hKn:∀b∈K,b∈L':=fun b hb=>hu.keep (hK b hb) (hne b hb)
   exact hK'.out _ _ (jh hM' hKn) (h _ hM' hKn))
theorem vS{z:Value}{cs:List Value}{K':Act→World→Prop}{ty:TypeId}(hM:qF w W L)(ho:o.op= .alloc ty)(hz:∀w,(zeroValue ty).run P w= .ok z w)(hc:z.cells=cs.toArray)
 (h:∀g W',qF w W' ((g,cs,ty)::L)→K' (a.put o.dst (.pointer (some ⟨g,0,none⟩))) W'):Oper.wp P o a W K' Q:=by
 unfold Oper.wp execOp;simp only[ho,Instr.alloc,Sem.run_bind,Sem.run_pure,Result.andThen_ok,hz,xY,hc];exact h _ _ (kR hM cs ty)
theorem UY{i j:Nat}{oj:Oper}(hn:tN l i o)(hnj:tN l j oj)(hr:Region.ready .any l.toArray listed=[i,j])(hgd:o.guard=none)(hgj:oj.guard=none)
 (h:∀K':Act→World→Prop,Shut (∀a w1,Held w K w1→wpAnyH P .any l.toArray Q (Held w K) fuel (listed.setIfInBounds i true) a w1→K' a w1)→Oper.wp P o a W K' Q)
 (hj:∀K':Act→World→Prop,Shut (∀a w1,Held w K w1→wpAnyH P .any l.toArray Q (Held w K) fuel (listed.setIfInBounds j true) a w1→K' a w1)→Oper.wp P oj a W K' Q):wpAnyH P .any l.toArray Q (Held w K) (fuel+1) listed a W:=
 wpAnyH_ready hr jL (AllReadyH.cons hn.get (fun K' hK=>by
  rw[if_pos (by simp[Region.wanted,hgd])]
  exact h K' (fun a w1 h1 h2=>hK.out a w1 h1 (fun _=>h2))) (AllReadyH.cons hnj.get (fun K' hK=>by
  rw[if_pos (by simp[Region.wanted,hgj])]
  exact hj K' (fun a w1 h1 h2=>hK.out a w1 h1 (fun _=>h2))) AllReadyH.nil))
theorem qp(hr:Region.ready .any l.toArray listed=[])(h:Q .normal a W):wpAnyH P .any l.toArray Q (Held w K) fuel listed a W:=wpAnyH_done hr h _
end
inductive bZ(e:TypeId)(size:Nat):Value→Nat→List Value→List qZ→Prop
 |nil:bZ e size (.slice none 0 0) 0 [] []
 |row {g cap n:Nat} {cur xs:List Value}:n≤cap→cap≤maxLen→cur.length=cap*size→cur.take (n*size)=xs→xs.length=n*size→bZ e size (.slice (some ⟨g,0,none⟩) n cap) n xs [(g,cur,e)]
inductive Sx:List qZ→List qZ→List qZ→Prop
 |here {B:List qZ}:Sx B [] B
 |tail {e:qZ} {L pre B:List qZ}:Sx L pre B→Sx (e::L) (e::pre) B
theorem Sx.eq{L pre B:List qZ}(h:Sx L pre B):L=pre++B:=by
 induction h with
 |here=>rfl
 |tail _ ih=>rw[ih];rfl
theorem bZ.len{e:TypeId}{size:Nat}{v:Value}{n:Nat}{xs:List Value}{B:List qZ}(h:bZ e size v n xs B):xs.length=n*size:=by
 cases h with
 |nil=>simp
 |row _ _ _ _ h=>exact h
theorem bZ.owns{w W:World}{L pre B:List qZ}{e:TypeId}{size:Nat}{v:Value}{n:Nat}{xs:List Value}(h:bZ e size v n xs B)(hM:qF w W L)(hs:L=pre++B):W.ownsRow w.heap.size e size v n xs:=by
 cases h with
 |nil=>exact World.ownsRow_nil _ _ _ _
 | @row g cap n cur xs h1 h2 h3 h4 h5=>
   have hr:=hM.rows g cur e (by rw[hs];simp);exact⟨h5,.inr ⟨g,cap,cur.toArray,rfl,hr.1,hr.2,h1,h2,by simpa using h3,by simpa using h4⟩⟩
theorem bZ.block{e:TypeId}{size:Nat}{v:Value}{n:Nat}{xs:List Value}{B:List qZ}(h:bZ e size v n xs B):∀k,v.ownBlock=some k↔k∈B.map (·.1):=by
 intro k
 cases h with
 |nil=>simp[Value.ownBlock]
 |row _ _ _ _ _=>simp[Value.ownBlock,eq_comm]
section
variable{P:Program}{w W:World}{L pre B:List qZ}
theorem uI{e:TypeId}{size:Nat}{v:Value}{n:Nat}{xs ys:List Value}{W':World}{g cap n':Nat}(hM:qF w W L)(hs:L=pre++B)(hO:bZ e size v n xs B)(hg:W.grownBy W' v.ownBlock)(hat:v.ownBlock=some g∨g=W.heap.size)
 (hown:W'.ownsRow w.heap.size e size (.slice (some ⟨g,0,none⟩) n' cap) n' ys):∃B',bZ e size (.slice (some ⟨g,0,none⟩) n' cap) n' ys B'∧qF w W' (pre++B'):=by
 obtain⟨hl,hr⟩:=hown;rcases hr with⟨h,_⟩|⟨g2,cap2,cur,hv,hb,hrow,h1,h2,h3,h4⟩
 ·cases h
 injection hv with hv1 hv2 hv3;injection hv1 with hv1;injection hv1 with hv1;subst hv1 hv3;have hnew:W'.heap[g]? =some (.cells cur.toList.toArray e (0,0)):=by simpa using hrow
 have hpre:∀x∈pre,x.1≠g:=by
  intro x hx e1;obtain⟨x1,x2,x3⟩:=x;simp only at e1;subst e1;rcases hat with h|h
  ·have hm:=(hO.block _).1 h;have hd:=hM.nodup;rw[hs,List.map_append,List.nodup_append]at hd;exact hd.2.2 _ (List.mem_map_of_mem (f:=(·.1)) hx) _ hm rfl
  ·have:=hM.lt (show(x1,x2,x3)∈L by rw[hs];exact List.mem_append_left _ hx);omega
 refine⟨[(g,cur.toList,e)],.row h1 h2 (by simpa using h3) (by simpa using h4) hl,⟨hg.os.trans hM.below.os,hg.tape.trans hM.below.tape,hg.output.trans hM.below.output,Nat.le_trans hM.below.size hg.size,fun k hk=> ?_⟩,?_,?_⟩
 ·refine(hg.block k (Nat.lt_of_lt_of_le hk hM.below.size) (fun he=> ?_)).trans (hM.below.block k hk);have hm:=(hO.block k).1 he.symm;obtain⟨⟨x1,x2,x3⟩,hx,e1⟩:=List.mem_map.1 hm;have:=(hM.rows x1 x2 x3 (by rw[hs];exact List.mem_append_right _ hx)).1;simp only at e1;omega
 ·intro g1 cs t hm;rcases List.mem_append.1 hm with hm|hm
  ·have h0:=hM.rows g1 cs t (by rw[hs];exact List.mem_append_left _ hm);refine⟨h0.1,(hg.block g1 (hM.lt (by rw[hs];exact List.mem_append_left _ hm)) (fun he=> ?_)).trans h0.2⟩;have hB:=(hO.block g1).1 he.symm;have hd:=hM.nodup;rw[hs,List.map_append,List.nodup_append]at hd;exact hd.2.2 _ (List.mem_map_of_mem (f:=(·.1)) hm) _ hB rfl
  ·simp only[List.mem_cons,List.not_mem_nil,or_false]at hm;injection hm with e1 e2;injection e2 with e2 e3;subst e1 e2 e3;exact⟨hb,hnew⟩
 ·have hd:=hM.nodup;rw[hs,List.map_append,List.nodup_append]at hd;rw[List.map_append,List.nodup_append];refine⟨hd.1,by simp,fun a ha b hb he=> ?_⟩;simp only[List.map_cons,List.map_nil,List.mem_cons,List.not_mem_nil,or_false]at hb;obtain⟨x,hx,e1⟩:=List.mem_map.1 ha;exact hpre x hx (by rw[e1,he,hb])
def yw(P:Program)(e:TypeId)(size bytes:Nat):Prop:=(P.info? e).map (fun i=>(i.zero.map (·.cells.size),i.size,i.bytes))=some (some size,size,bytes)
theorem fP{o:Oper}{a:Act}{K:Act→World→Prop}{Q:Exit→Act→World→Prop}{s x:Operand}{t:TypeId}(hM:qF w W L)
 (ho:o.op= .call {callee:= .builtin .append,args:= #[s,x],argTypes:= #[t,t]}) {e:TypeId} {size bytes:Nat} {v:Value} {n:Nat} {xs:List Value} (hs:a.eval s=v) {g1 c:Nat} (hx:a.eval x= .slice (some ⟨g1,0,none⟩) 1 c)
 (hO:bZ e size v n xs B) (hS:Sx L pre B) (ht:P.underlying t=some (.slice e)) (hI:yw P e size bytes) {news:List Value} {tg:TypeId} (hl:Lk L g1 news tg) (hn:news.length=size) (h1:∀u∈news,u.oneCell'=true) (hz:0<size) (hb:(n+1)*bytes≤140737488355328) (hm:n+1≤maxLen)
 (h:∀g cap B' W',bZ e size (.slice (some ⟨g,0,none⟩) (n+1) cap) (n+1) (xs++news) B'→qF w W' (pre++B')→K (a.put o.dst (.slice (some ⟨g,0,none⟩) (n+1) cap)) W'):o.wp P a W K Q:=by
 obtain⟨i,hi,hz0⟩:=Option.map_eq_some_iff.1 hI;simp only[Prod.mk.injEq]at hz0;obtain⟨z1,z2,z3⟩:=hz0;obtain⟨z,hz3,hz4⟩:=Option.map_eq_some_iff.1 z1;have hr:=hM.rows g1 news tg hl.mem;refine wp_append_lies W s x t ho w.heap.size e i z size bytes ht hi hz3 z2 z3 hz4 hz v n xs hs (hO.owns hM hS.eq) ⟨g1,0,none⟩ 1 c news hx qg (fun j u hj=>World.news_of_block hr.2 j u (by simpa using hj)) h1 qG hm hb hM.below.size _ rfl (fun g cap W' h2 h3 h4 _=> ?_);obtain⟨B',hB,hM'⟩:=uI hM hS.eq hO h3 h4 h2;exact h g cap B' W' hB hM'
theorem KZ{ops:Array Oper}{rest:List Oper}{o:Oper}{a:Act}{Q:Exit→Act→World→Prop}{s x:Operand}{t:TypeId}(hM:qF w W L)(hgd:o.guard=none)
 (ho:o.op= .call {callee:= .builtin .append,args:= #[s,x],argTypes:= #[t,t]}) {e:TypeId} {size bytes:Nat} {v:Value} {n:Nat} {xs:List Value} (hs:a.eval s=v) {g1 c:Nat} (hx:a.eval x= .slice (some ⟨g1,0,none⟩) 1 c)
 (hO:bZ e size v n xs B) (hS:Sx L pre B) (ht:P.underlying t=some (.slice e)) (hI:yw P e size bytes) {news:List Value} {tg:TypeId} (hl:Lk L g1 news tg) (hn:news.length=size) (h1:∀u∈news,u.oneCell'=true) (hz:0<size) (hb:(n+1)*bytes≤140737488355328) (hm:n+1≤maxLen)
 (h:∀g cap B' W',bZ e size (.slice (some ⟨g,0,none⟩) (n+1) cap) (n+1) (xs++news) B'→qF w W' (pre++B')→wpList P ops Q rest (a.put o.dst (.slice (some ⟨g,0,none⟩) (n+1) cap)) W'):wpList P ops Q (o::rest) a W:=
 wpList_plain hgd fun _ hK=>fP hM ho hs hx hO hS ht hI hl hn h1 hz hb hm fun g cap B' W' h2 h3=>hK _ _ (h g cap B' W' h2 h3)
theorem Ua{o:Oper}{a:Act}{K:Act→World→Prop}{Q:Exit→Act→World→Prop}{t:TypeId}{x:Operand}(hM:qF w W L)(ho:o.op= .buildSlice t 1 #[(0,x)]){e:TypeId}{size bytes:Nat}{news:List Value}(hv:Ev (a.eval x) news)
 (hu:P.underlying t=some (.slice e)) (hI:yw P e size bytes) (hn:news.length=size) (hz:0<size) (hz2:size≤1000)
 (h:∀g W',qF w W' ((g,news,e)::L)→K (a.put o.dst (.slice (some ⟨g,0,none⟩) 1 1)) W'):o.wp P a W K Q:=by
 obtain⟨i,hi,hz0⟩:=Option.map_eq_some_iff.1 hI;simp only[Prod.mk.injEq]at hz0;obtain⟨z1,z2,z3⟩:=hz0;obtain⟨z,hz3,hz4⟩:=Option.map_eq_some_iff.1 z1;have hc:=hv.eq;refine wp_buildSlice t e 1 _ ho news.toArray i z hu hi hz3 (by rw[z2];omega) (by rw[z2];omega) ?_ (h _ _ (kR hM news e));have:=Great.fill_whole hz [a.eval x] ((Array.range (1*size)).map (z.cells[· %z.cells.size]!)) (fun v h2=>by rw[List.mem_singleton.1 h2,hc];simpa using hn) jL;rw[z2];simpa[hc]using this
theorem yZ{ops:Array Oper}{rest:List Oper}{o:Oper}{a:Act}{Q:Exit→Act→World→Prop}{t:TypeId}{x:Operand}(hM:qF w W L)(hgd:o.guard=none)(ho:o.op= .buildSlice t 1 #[(0,x)]){e:TypeId}{size bytes:Nat}{news:List Value}(hv:Ev (a.eval x) news)
 (hu:P.underlying t=some (.slice e)) (hI:yw P e size bytes) (hn:news.length=size) (hz:0<size) (hz2:size≤1000)
 (h:∀g W',qF w W' ((g,news,e)::L)→wpList P ops Q rest (a.put o.dst (.slice (some ⟨g,0,none⟩) 1 1)) W'):wpList P ops Q (o::rest) a W:=
 wpList_plain hgd fun _ hK=>Ua hM ho hv hu hI hn hz hz2 fun g W' h2=>hK _ _ (h g W' h2)
end
theorem uJ{ty:TypeId}{n:Nat}{ps:Array (Nat×Operand)}{P:Program}{ops:Array Oper}{rest:List Oper}{d:Option Tmp}{t:TypeId}{p:String}{l:Array Edge}{g:Option (Nat×Bool)}{Q:Exit→Act→World→Prop}{a:Act}{w:World}
 (h:wpList P ops Q ({dst:=d,op:= .buildSlice ty n ps,type:=t,pos:=p,after:=l,guard:=g}::rest) a w):wpList P ops Q ({dst:=d,op:= .buildSlice ty n ps,type:=t,pos:=p,after:=l,guard:=g}::rest) a w:=h
theorem kD{s x:Operand}{ts:Array TypeId}{P:Program}{ops:Array Oper}{rest:List Oper}{d:Option Tmp}{t:TypeId}{p:String}{l:Array Edge}{g:Option (Nat×Bool)}{Q:Exit→Act→World→Prop}{a:Act}{w:World}
 (h:wpList P ops Q ({dst:=d,op:= .call {callee:= .builtin .append,args:= #[s,x],argTypes:=ts},type:=t,pos:=p,after:=l,guard:=g}::rest) a w):wpList P ops Q ({dst:=d,op:= .call {callee:= .builtin .append,args:= #[s,x],argTypes:=ts},type:=t,pos:=p,after:=l,guard:=g}::rest) a w:=h
set_option linter.unusedSimpArgs false
def xu:List TypeId:=[24,26,91,63,60,28,55,51,30,53,88,182,189,46,42,35,38,40,57,196,72,217,145,67,74,69,207,214,301]
def Jw:List TypeId:=[22,44,82,130,127,32,33,31,197,65,36,285,64,288,2,47,4,3,58,5,9,89,61]
def ZA:List (TypeId×Nat):=[(24,4),(26,2),(91,15),(63,20),(60,13),(28,4),(55,2),(51,5),(30,8),(53,13),(88,5),(182,15),(189,10),(46,2),(42,36),(35,15),(38,9),(40,4),(57,7),(196,2),(72,2),(217,4),(145,2),(67,2),(74,13),(69,4),(207,3),(214,7),(301,2)]
def TY:List (TypeId×Nat):=[(2,1),(47,1),(4,1),(3,1),(58,1),(5,1),(9,1),(89,1),(61,1)]
def fQ:List (TypeId×Value):=[(24,.agg #[.string ⟨#[]⟩,.string ⟨#[]⟩,.slice none 0 0,Iv 0]),(26,.agg #[Iv 0,Iv 0]),(91,.agg #[.int .u8 0,Iv 0,Iv 0,Iv 0,Iv 0,Iv 0,Iv 0,Iv 0,Iv 0,Iv 0,Iv 0,Iv 0,Iv 0,Iv 0,.bool false]),(63,.agg #[.bool false,.int .u8 0,.string ⟨#[]⟩,.string ⟨#[]⟩,.int .u8 0,.bool false,Iv 0,Iv 0,Iv 0,Iv 0,Iv 0,Iv 0,Iv 0,Iv 0,Iv 0,Iv 0,Iv 0,Iv 0,.int .u8 0,.string ⟨#[]⟩]),(60,.agg #[.int .u8 0,.string ⟨#[]⟩,.string ⟨#[]⟩,.int .u8 0,.bool false,Iv 0,Iv 0,Iv 0,Iv 0,Iv 0,Iv 0,Iv 0,Iv 0]),(28,.agg #[Iv 0,Iv 0,Iv 0,Iv 0]),(55,.agg #[Iv 0,Iv 0]),(51,.agg #[Iv 0,Iv 0,Iv 0,Iv 0,Iv 0]),(30,.agg #[Iv 0,Iv 0,Iv 0,Iv 0,Iv 0,Iv 0,Iv 0,Iv 0]),(53,.agg #[.bool false,Iv 0,Iv 0,Iv 0,Iv 0,Iv 0,Iv 0,Iv 0,Iv 0,Iv 0,Iv 0,Iv 0,.bool false]),(88,.agg #[.slice none 0 0,Iv 0,Iv 0,.bool false,Iv 0]),(182,.agg #[Iv 0,Iv 0,Iv 0,Iv 0,Iv 0,Iv 0,Iv 0,Iv 0,Iv 0,Iv 0,Iv 0,Iv 0,Iv 0,Iv 0,Iv 0]),(189,.agg #[Iv 0,Iv 0,Iv 0,Iv 0,Iv 0,Iv 0,Iv 0,Iv 0,Iv 0,Iv 0]),(46,.agg #[.slice none 0 0,Iv 0]),(42,.agg #[.slice none 0 0,.string ⟨#[]⟩,Iv 0,Iv 0,.slice none 0 0,.slice none 0 0,.slice none 0 0,.slice none 0 0,.slice none 0 0,.slice none 0 0,.slice none 0 0,.slice none 0 0,.slice none 0 0,Iv 0,Iv 0,Iv 0,Iv 0,Iv 0,Iv 0,Iv 0,Iv 0,.slice none 0 0,.slice none 0 0,.slice none 0 0,Iv 0,Iv 0,Iv 0,Iv 0,Iv 0,Iv 0,Iv 0,Iv 0,Iv 0,Iv 0,Iv 0,Iv 0]),(35,.agg #[.string ⟨#[]⟩,Iv 0,Iv 0,.slice none 0 0,.slice none 0 0,.slice none 0 0,.slice none 0 0,.slice none 0 0,.slice none 0 0,.slice none 0 0,.slice none 0 0,.slice none 0 0,Iv 0,Iv 0,Iv 0]),(38,.agg #[Iv 0,Iv 0,Iv 0,Iv 0,Iv 0,.slice none 0 0,.slice none 0 0,.slice none 0 0,Iv 0]),(40,.agg #[Iv 0,Iv 0,Iv 0,Iv 0]),(57,.agg #[Iv 0,Iv 0,Iv 0,Iv 0,Iv 0,Iv 0,Iv 0]),(196,.agg #[Iv 0,Iv 0]),(72,.agg #[Iv 0,Iv 0]),(217,.agg #[Iv 0,Iv 0,Iv 0,Iv 0]),(145,.agg #[Iv 0,Iv 0]),(67,.agg #[Iv 0,Iv 0]),(74,.agg #[Iv 0,Iv 0,Iv 0,Iv 0,Iv 0,Iv 0,Iv 0,Iv 0,Iv 0,Iv 0,Iv 0,Iv 0,.int .u8 0]),(69,.agg #[.slice none 0 0,Iv 0,Iv 0,.bool false]),(207,.agg #[Iv 0,Iv 0,Iv 0]),(214,.agg #[Iv 0,Iv 0,.int .u8 0,Iv 0,Iv 0,Iv 0,Iv 0]),(301,.agg #[Iv 0,Iv 0]),(2,Iv 0),(47,Iv 0),(4,.bool false),(3,Iv 0),(58,.int .u8 0),(5,.int .u8 0),(9,.string ⟨#[]⟩),(89,.int .u8 0),(61,.int .u8 0)]
theorem Zg{ty:TypeId}(h:xu.contains ty=true):∀w,(isAgg ty).run Tryz.prog w= .ok true w:=by
 have h2:ty∈xu:=List.contains_iff_mem.1 h;simp only[xu,List.mem_cons,List.not_mem_nil,or_false]at h2;rcases h2 with rfl|rfl|rfl|rfl|rfl|rfl|rfl|rfl|rfl|rfl|rfl|rfl|rfl|rfl|rfl|rfl|rfl|rfl|rfl|rfl|rfl|rfl|rfl|rfl|rfl|rfl|rfl|rfl|rfl
 ·exact Tryz.isAgg24
 ·exact Tryz.isAgg26
 ·exact Tryz.isAgg91
 ·exact Tryz.isAgg63
 ·exact Tryz.isAgg60
 ·exact Tryz.isAgg28
 ·exact Tryz.isAgg55
 ·exact Tryz.isAgg51
 ·exact Tryz.isAgg30
 ·exact Tryz.isAgg53
 ·exact Tryz.isAgg88
 ·exact Tryz.isAgg182
 ·exact Tryz.isAgg189
 ·exact Tryz.isAgg46
 ·exact Tryz.isAgg42
 ·exact Tryz.isAgg35
 ·exact Tryz.isAgg38
 ·exact Tryz.isAgg40
 ·exact Tryz.isAgg57
 ·exact Tryz.isAgg196
 ·exact Tryz.isAgg72
 ·exact Tryz.isAgg217
 ·exact Tryz.isAgg145
 ·exact Tryz.isAgg67
 ·exact Tryz.isAgg74
 ·exact Tryz.isAgg69
 ·exact Tryz.isAgg207
 ·exact Tryz.isAgg214
 ·exact Tryz.isAgg301
theorem ur{ty:TypeId}(h:Jw.contains ty=true):∀w,(isAgg ty).run Tryz.prog w= .ok false w:=by
 have h2:ty∈Jw:=List.contains_iff_mem.1 h;simp only[Jw,List.mem_cons,List.not_mem_nil,or_false]at h2;rcases h2 with rfl|rfl|rfl|rfl|rfl|rfl|rfl|rfl|rfl|rfl|rfl|rfl|rfl|rfl|rfl|rfl|rfl|rfl|rfl|rfl|rfl|rfl|rfl
 ·exact Tryz.isAgg22
 ·exact Tryz.isAgg44
 ·exact Tryz.isAgg82
 ·exact Tryz.isAgg130
 ·exact Tryz.isAgg127
 ·exact Tryz.isAgg32
 ·exact Tryz.isAgg33
 ·exact Tryz.isAgg31
 ·exact Tryz.isAgg197
 ·exact Tryz.isAgg65
 ·exact Tryz.isAgg36
 ·exact Tryz.isAgg285
 ·exact Tryz.isAgg64
 ·exact Tryz.isAgg288
 ·exact Tryz.isAgg2
 ·exact Tryz.isAgg47
 ·exact Tryz.isAgg4
 ·exact Tryz.isAgg3
 ·exact Tryz.isAgg58
 ·exact Tryz.isAgg5
 ·exact Tryz.isAgg9
 ·exact Tryz.isAgg89
 ·exact Tryz.isAgg61
theorem VM{α β:Type} [BEq α] [LawfulBEq α]{l:List (α×β)}{a:α}{b:β}(h:l.lookup a=some b):(a,b)∈l:=by
 induction l with
 |nil=>cases h
 |cons x l ih=>
  obtain⟨x1,x2⟩:=x;rw[List.lookup_cons]at h;split at h
  ·rename_i e;injection h with h;have:=eq_of_beq e;subst this h;exact .head _
  ·exact .tail _ (ih h)
theorem bQ{ty:TypeId}{n:Nat}(h:(ZA++TY).lookup ty=some n):∀w,(sizeOf ty).run Tryz.prog w= .ok n w:=by
 have h2:=VM h;rcases List.mem_append.1 h2 with h2|h2
 ·simp only[ZA,List.mem_cons,List.not_mem_nil,or_false,Prod.mk.injEq]at h2;rcases h2 with⟨rfl,rfl⟩|⟨rfl,rfl⟩|⟨rfl,rfl⟩|⟨rfl,rfl⟩|⟨rfl,rfl⟩|⟨rfl,rfl⟩|⟨rfl,rfl⟩|⟨rfl,rfl⟩|⟨rfl,rfl⟩|⟨rfl,rfl⟩|⟨rfl,rfl⟩|⟨rfl,rfl⟩|⟨rfl,rfl⟩|⟨rfl,rfl⟩|⟨rfl,rfl⟩|⟨rfl,rfl⟩|⟨rfl,rfl⟩|⟨rfl,rfl⟩|⟨rfl,rfl⟩|⟨rfl,rfl⟩|⟨rfl,rfl⟩|⟨rfl,rfl⟩|⟨rfl,rfl⟩|⟨rfl,rfl⟩|⟨rfl,rfl⟩|⟨rfl,rfl⟩|⟨rfl,rfl⟩|⟨rfl,rfl⟩|⟨rfl,rfl⟩
  ·exact Tryz.sizeOf24
  ·exact Tryz.sizeOf26
  ·exact Tryz.sizeOf91
  ·exact Tryz.sizeOf63
  ·exact Tryz.sizeOf60
  ·exact Tryz.sizeOf28
  ·exact Tryz.sizeOf55
  ·exact Tryz.sizeOf51
  ·exact Tryz.sizeOf30
  ·exact Tryz.sizeOf53
  ·exact Tryz.sizeOf88
  ·exact Tryz.sizeOf182
  ·exact Tryz.sizeOf189
  ·exact Tryz.sizeOf46
  ·exact Tryz.sizeOf42
  ·exact Tryz.sizeOf35
  ·exact Tryz.sizeOf38
  ·exact Tryz.sizeOf40
  ·exact Tryz.sizeOf57
  ·exact Tryz.sizeOf196
  ·exact Tryz.sizeOf72
  ·exact Tryz.sizeOf217
  ·exact Tryz.sizeOf145
  ·exact Tryz.sizeOf67
  ·exact Tryz.sizeOf74
  ·exact Tryz.sizeOf69
  ·exact Tryz.sizeOf207
  ·exact Tryz.sizeOf214
  ·exact Tryz.sizeOf301
 ·simp only[TY,List.mem_cons,List.not_mem_nil,or_false,Prod.mk.injEq]at h2;rcases h2 with⟨rfl,rfl⟩|⟨rfl,rfl⟩|⟨rfl,rfl⟩|⟨rfl,rfl⟩|⟨rfl,rfl⟩|⟨rfl,rfl⟩|⟨rfl,rfl⟩|⟨rfl,rfl⟩|⟨rfl,rfl⟩
  ·exact Tryz.sizeOf2
  ·exact Tryz.sizeOf47
  ·exact Tryz.sizeOf4
  ·exact Tryz.sizeOf3
  ·exact Tryz.sizeOf58
  ·exact Tryz.sizeOf5
  ·exact Tryz.sizeOf9
  ·exact Tryz.sizeOf89
  ·exact Tryz.sizeOf61
theorem ym{o:Oper}:∀{l:List Oper} {i:Nat},l[i]? =some o→tN l i o
 | [],_,h=>by simp at h
 |x::l,0,h=>by
  simp at h;subst h;exact .head
 |x::l,i+1,h=> .tail (ym (by simpa using h))
theorem Sv{ty:TypeId}{n:Value}(h:fQ.lookup ty=some n):∀w,(zeroValue ty).run Tryz.prog w= .ok n w:=by
 have h2:(ty,n)∈fQ:=VM h;simp only[fQ,List.mem_cons,List.not_mem_nil,or_false,Prod.mk.injEq]at h2;rcases h2 with⟨rfl,rfl⟩|⟨rfl,rfl⟩|⟨rfl,rfl⟩|⟨rfl,rfl⟩|⟨rfl,rfl⟩|⟨rfl,rfl⟩|⟨rfl,rfl⟩|⟨rfl,rfl⟩|⟨rfl,rfl⟩|⟨rfl,rfl⟩|⟨rfl,rfl⟩|⟨rfl,rfl⟩|⟨rfl,rfl⟩|⟨rfl,rfl⟩|⟨rfl,rfl⟩|⟨rfl,rfl⟩|⟨rfl,rfl⟩|⟨rfl,rfl⟩|⟨rfl,rfl⟩|⟨rfl,rfl⟩|⟨rfl,rfl⟩|⟨rfl,rfl⟩|⟨rfl,rfl⟩|⟨rfl,rfl⟩|⟨rfl,rfl⟩|⟨rfl,rfl⟩|⟨rfl,rfl⟩|⟨rfl,rfl⟩|⟨rfl,rfl⟩|⟨rfl,rfl⟩|⟨rfl,rfl⟩|⟨rfl,rfl⟩|⟨rfl,rfl⟩|⟨rfl,rfl⟩|⟨rfl,rfl⟩|⟨rfl,rfl⟩|⟨rfl,rfl⟩|⟨rfl,rfl⟩
 ·exact Tryz.zeroValue24
 ·exact Tryz.zeroValue26
 ·exact Tryz.zeroValue91
 ·exact Tryz.zeroValue63
 ·exact Tryz.zeroValue60
 ·exact Tryz.zeroValue28
 ·exact Tryz.zeroValue55
 ·exact Tryz.zeroValue51
 ·exact Tryz.zeroValue30
 ·exact Tryz.zeroValue53
 ·exact Tryz.zeroValue88
 ·exact Tryz.zeroValue182
 ·exact Tryz.zeroValue189
 ·exact Tryz.zeroValue46
 ·exact Tryz.zeroValue42
 ·exact Tryz.zeroValue35
 ·exact Tryz.zeroValue38
 ·exact Tryz.zeroValue40
 ·exact Tryz.zeroValue57
 ·exact Tryz.zeroValue196
 ·exact Tryz.zeroValue72
 ·exact Tryz.zeroValue217
 ·exact Tryz.zeroValue145
 ·exact Tryz.zeroValue67
 ·exact Tryz.zeroValue74
 ·exact Tryz.zeroValue69
 ·exact Tryz.zeroValue207
 ·exact Tryz.zeroValue214
 ·exact Tryz.zeroValue301
 ·exact Tryz.zeroValue2
 ·exact Tryz.zeroValue47
 ·exact Tryz.zeroValue4
 ·exact Tryz.zeroValue3
 ·exact Tryz.zeroValue58
 ·exact Tryz.zeroValue5
 ·exact Tryz.zeroValue9
 ·exact Tryz.zeroValue89
 ·exact Tryz.zeroValue61
section
variable{ops:Array Oper}{Q:Exit→Act→World→Prop}{a:Act}{w W:World}{L:List qZ}{rest:List Oper}{o:Oper}
theorem aL{cs:List Value}{t:TypeId}{v:Value}{ty:TypeId}{x:Operand}(hM:qF w W L)(ho:o.op= .load ty x){g off:Nat}(hx:a.eval x= .pointer (some ⟨g,off,none⟩))(h:wpList Tryz.prog ops Q rest (a.put o.dst v) W)
 (hw:Region.wanted o (yielded ops a.tmps)=true:=by first|exact rfl|(go_simp<;>fail)) (hl:Lk L g cs t:=by((repeat constructor)<;>fail)) (hg:Jw.contains ty=true:=by rfl) (hv:cs[off]? =some v:=by rfl):wpList Tryz.prog ops Q (o::rest) a W:=
 iV hM ho hx hw hl (ur hg) hv h
theorem aM{cs:List Value}{t:TypeId}{n:Nat}{C:List Value}{ty:TypeId}{x:Operand}(hM:qF w W L)(ho:o.op= .load ty x){g off:Nat}(hx:a.eval x= .pointer (some ⟨g,off,none⟩))(h:wpList Tryz.prog ops Q rest (a.put o.dst (.agg C.toArray)) W)
 (hw:Region.wanted o (yielded ops a.tmps)=true:=by first|exact rfl|(go_simp<;>fail)) (hl:Lk L g cs t:=by((repeat constructor)<;>fail)) (hg:xu.contains ty=true:=by rfl) (hz:List.lookup ty (ZA++TY)=some n:=by rfl) (hC:Part cs off n C:=by((repeat constructor)<;>fail)):wpList Tryz.prog ops Q (o::rest) a W:=
 NR hM ho hx hw hl (Zg hg) (bQ hz) hC h
theorem aS{new:List Value}{cs:List Value}{cs':List Value}{t:TypeId}{L':List qZ}{n:Nat}(hM:qF w W L)(hg:o.guard=none){ty:TypeId}{x y:Operand}(ho:o.op= .store ty x y){g off:Nat}(hx:a.eval x= .pointer (some ⟨g,off,none⟩))
 (h:∀W',qF w W' L'→wpList Tryz.prog ops Q rest (a.put o.dst undef) W') (hy:Ev (a.eval y) new:=by(constructor<;>fail)) (hk:Lk L g cs t:=by((repeat constructor)<;>fail)) (hc:UX cs off new cs':=by((repeat constructor)<;>fail)) (hu:Up L g cs cs' t L':=by((repeat constructor)<;>fail))
 (hi:List.lookup ty (ZA++TY)=some n:=by rfl) (hn:new.length=n:=by rfl) (h1:new.all (·.oneCell')=true:=by rfl):wpList Tryz.prog ops Q (o::rest) a W:=
 iU hM hg ho hx hy hk hc hu (bQ hi) hn (yf h1) h
theorem aB{cs:List Value}(hM:qF w W L)(hg:o.guard=none){ty:TypeId}{x:Operand}(ho:o.op= .box ty x)
 (h:∀g W',qF w W' ((g,cs,ty)::L)→wpList Tryz.prog ops Q rest (a.put o.dst (.pointer (some ⟨g,0,none⟩))) W') (hc:Ev (a.eval x) cs:=by(constructor<;>fail)):wpList Tryz.prog ops Q (o::rest) a W:=
 Fz hM hg ho hc h
theorem aN{z:Value}{cs:List Value}(hM:qF w W L)(hg:o.guard=none){ty:TypeId}(ho:o.op= .alloc ty)
 (h:∀g W',qF w W' ((g,cs,ty)::L)→wpList Tryz.prog ops Q rest (a.put o.dst (.pointer (some ⟨g,0,none⟩))) W') (hz:List.lookup ty fQ=some z:=by rfl) (hc:z.cells=cs.toArray:=by rfl):wpList Tryz.prog ops Q (o::rest) a W:=
 iT hM hg ho (Sv hz) hc h
theorem cb{P:Program}{f:FuncId}{xs:Array Value}{v:Value}{R:Ending→World→Prop}(hM:qF w W L)(hc:Calls P f xs W fun e w'=>e= .returned v∧Below W.heap.size W w')(h:∀W1,qF w W1 L→R (.returned v) W1):Calls P f xs W R:=
 hc.mono fun e w' hh=>by
  obtain⟨he,hb⟩:=hh;subst he;exact h _ (qD hM hb)
theorem lX{ty:TypeId}{P:Program}{d:Option Tmp}{x:Operand}{t:TypeId}{p:String}{l:Array Edge}{g:Option (Nat×Bool)}
 (h:wpList P ops Q ({dst:=d,op:= .load ty x,type:=t,pos:=p,after:=l,guard:=g}::rest) a w):wpList P ops Q ({dst:=d,op:= .load ty x,type:=t,pos:=p,after:=l,guard:=g}::rest) a w:=h
theorem sX{ty:TypeId}{P:Program}{d:Option Tmp}{x y:Operand}{t:TypeId}{p:String}{l:Array Edge}{g:Option (Nat×Bool)}
 (h:wpList P ops Q ({dst:=d,op:= .store ty x y,type:=t,pos:=p,after:=l,guard:=g}::rest) a w):wpList P ops Q ({dst:=d,op:= .store ty x y,type:=t,pos:=p,after:=l,guard:=g}::rest) a w:=h
theorem zX{ty:TypeId}{P:Program}{d:Option Tmp}{t:TypeId}{p:String}{l:Array Edge}{g:Option (Nat×Bool)}
 (h:wpList P ops Q ({dst:=d,op:= .alloc ty,type:=t,pos:=p,after:=l,guard:=g}::rest) a w):wpList P ops Q ({dst:=d,op:= .alloc ty,type:=t,pos:=p,after:=l,guard:=g}::rest) a w:=h
theorem bX{ty:TypeId}{P:Program}{d:Option Tmp}{x:Operand}{t:TypeId}{p:String}{l:Array Edge}{g:Option (Nat×Bool)}
 (h:wpList P ops Q ({dst:=d,op:= .box ty x,type:=t,pos:=p,after:=l,guard:=g}::rest) a w):wpList P ops Q ({dst:=d,op:= .box ty x,type:=t,pos:=p,after:=l,guard:=g}::rest) a w:=h
def wS(G' G:Prop):Prop:=G'→G
def UZ(_:Nat)(G' G:Prop):Prop:=G'→G
theorem uL{cs:List Value}{t:TypeId}{v:Value}{ty:TypeId}{x:Operand}(hM:qF w W L)(ho:o.op= .load ty x){g off:Nat}(hx:a.eval x= .pointer (some ⟨g,off,none⟩))
 (hg:Jw.contains ty=true:=by rfl) (hw:Region.wanted o (yielded ops a.tmps)=true:=by first|exact rfl|(go_simp<;>fail)) (hl:Lk L g cs t:=by((repeat constructor)<;>fail)) (hv:cs[off]? =some v:=by rfl):wS (wpList Tryz.prog ops Q rest (a.put o.dst v) W) (wpList Tryz.prog ops Q (o::rest) a W):=
 fun h=>aL hM ho hx h hw hl hg hv
theorem uM{cs:List Value}{t:TypeId}{n:Nat}{C:List Value}{ty:TypeId}{x:Operand}(hM:qF w W L)(ho:o.op= .load ty x){g off:Nat}(hx:a.eval x= .pointer (some ⟨g,off,none⟩))
 (hg:xu.contains ty=true:=by rfl) (hw:Region.wanted o (yielded ops a.tmps)=true:=by first|exact rfl|(go_simp<;>fail)) (hl:Lk L g cs t:=by((repeat constructor)<;>fail)) (hz:List.lookup ty (ZA++TY)=some n:=by rfl) (hC:Part cs off n C:=by((repeat constructor)<;>fail)):wS (wpList Tryz.prog ops Q rest (a.put o.dst (.agg C.toArray)) W) (wpList Tryz.prog ops Q (o::rest) a W):=
 fun h=>aM hM ho hx h hw hl hg hz hC
theorem uS{new:List Value}{cs:List Value}{cs':List Value}{t:TypeId}{L':List qZ}{n:Nat}(hM:qF w W L)(hg:o.guard=none){ty:TypeId}{x y:Operand}(ho:o.op= .store ty x y){g off:Nat}(hx:a.eval x= .pointer (some ⟨g,off,none⟩))
 (hy:Ev (a.eval y) new:=by(constructor<;>fail)) (hk:Lk L g cs t:=by((repeat constructor)<;>fail)) (hc:UX cs off new cs':=by((repeat constructor)<;>fail)) (hu:Up L g cs cs' t L':=by((repeat constructor)<;>fail))
 (hi:List.lookup ty (ZA++TY)=some n:=by rfl) (hn:new.length=n:=by rfl) (h1:new.all (·.oneCell')=true:=by rfl):wS (∀W',qF w W' L'→wpList Tryz.prog ops Q rest (a.put o.dst undef) W') (wpList Tryz.prog ops Q (o::rest) a W):=
 fun h=>aS hM hg ho hx h hy hk hc hu hi hn h1
theorem uB{cs:List Value}(hM:qF w W L)(hg:o.guard=none){ty:TypeId}{x:Operand}(ho:o.op= .box ty x)(hc:Ev (a.eval x) cs:=by(constructor<;>fail)):
 wS (∀g W',qF w W' ((g,cs,ty)::L)→wpList Tryz.prog ops Q rest (a.put o.dst (.pointer (some ⟨g,0,none⟩))) W') (wpList Tryz.prog ops Q (o::rest) a W):=fun h=>aB hM hg ho h hc
theorem uN{z:Value}{cs:List Value}(hM:qF w W L)(hg:o.guard=none){ty:TypeId}(ho:o.op= .alloc ty)(hz:List.lookup ty fQ=some z:=by rfl)(hc:z.cells=cs.toArray:=by rfl):
 wS (∀g W',qF w W' ((g,cs,ty)::L)→wpList Tryz.prog ops Q rest (a.put o.dst (.pointer (some ⟨g,0,none⟩))) W') (wpList Tryz.prog ops Q (o::rest) a W):=fun h=>aN hM hg ho h hz hc
theorem mL{G' G:Prop}(k:G')(s:wS G' G:=by first|exact uL hM rfl rfl|exact uM hM rfl rfl|fail):G:=s k
theorem mS{G' G:Prop}(k:G')(s:wS G' G:=by first|exact uS hM rfl rfl rfl|fail):G:=s k
theorem mB{G' G:Prop}(k:G')(s:wS G' G:=by first|exact uB hM rfl rfl|exact uN hM rfl rfl|fail):G:=s k
theorem pS(a:Act)(t:Tmp)(v:Value):a.put (some t) v={a with tmps:=a.tmps.setIfInBounds t v}:=rfl
theorem pN(a:Act)(v:Value):a.put none v=a:=rfl
theorem sA{α:Type}(l:List α)(i:Nat)(x:α):l.toArray.setIfInBounds i x=(l.set i x).toArray:=List.setIfInBounds_toArray ..
theorem sB{α:Type}(x y:α)(l:List α):(x::l).set 0 y=y::l:=rfl
theorem sC{α:Type}(x y:α)(l:List α)(i:Nat):(x::l).set (i+1) y=x::l.set i y:=rfl
def DW(_:Prop):Prop:=True
theorem Au{ty:TypeId}{P:Program}{d:Option Tmp}{t:TypeId}{p:String}{l:Array Edge}{g:Option (Nat×Bool)}{x:Operand}:DW (wpList P ops Q ({dst:=d,op:= .load ty x,type:=t,pos:=p,after:=l,guard:=g}::rest) a w):=trivial
theorem Av{ty:TypeId}{P:Program}{d:Option Tmp}{t:TypeId}{p:String}{l:Array Edge}{g:Option (Nat×Bool)}{x y:Operand}:DW (wpList P ops Q ({dst:=d,op:= .store ty x y,type:=t,pos:=p,after:=l,guard:=g}::rest) a w):=trivial
theorem Aw{ty:TypeId}{P:Program}{d:Option Tmp}{t:TypeId}{p:String}{l:Array Edge}{g:Option (Nat×Bool)}{x:Operand}:DW (wpList P ops Q ({dst:=d,op:= .box ty x,type:=t,pos:=p,after:=l,guard:=g}::rest) a w):=trivial
theorem AC{ty:TypeId}{P:Program}{d:Option Tmp}{t:TypeId}{p:String}{l:Array Edge}{g:Option (Nat×Bool)}:DW (wpList P ops Q ({dst:=d,op:= .alloc ty,type:=t,pos:=p,after:=l,guard:=g}::rest) a w):=trivial
theorem LR{cs:List Value}{t:TypeId}{v:Value}{ty:TypeId}{x:Operand}(hM:qF w W L)(ho:o.op= .load ty x){g off:Nat}(hx:a.eval x= .pointer (some ⟨g,off,none⟩))
 (hg:Jw.contains ty=true:=by rfl) (hw:Region.wanted o (yielded ops a.tmps)=true:=by first|exact rfl|(go_simp<;>fail)) (hl:Lk L g cs t:=by((repeat constructor)<;>fail)) (hv:cs[off]? =some v:=by rfl):wS (∀(_:Nat) W',qF w W' L→wpList Tryz.prog ops Q rest (a.put o.dst v) W') (wpList Tryz.prog ops Q (o::rest) a W):=
 fun h=>aL hM ho hx (h 0 W hM) hw hl hg hv
theorem LU{cs:List Value}{t:TypeId}{n:Nat}{C:List Value}{ty:TypeId}{x:Operand}(hM:qF w W L)(ho:o.op= .load ty x){g off:Nat}(hx:a.eval x= .pointer (some ⟨g,off,none⟩))
 (hg:xu.contains ty=true:=by rfl) (hw:Region.wanted o (yielded ops a.tmps)=true:=by first|exact rfl|(go_simp<;>fail)) (hl:Lk L g cs t:=by((repeat constructor)<;>fail)) (hz:List.lookup ty (ZA++TY)=some n:=by rfl) (hC:Part cs off n C:=by((repeat constructor)<;>fail)):wS (∀(_:Nat) W',qF w W' L→wpList Tryz.prog ops Q rest (a.put o.dst (.agg C.toArray)) W') (wpList Tryz.prog ops Q (o::rest) a W):=
 fun h=>aM hM ho hx (h 0 W hM) hw hl hg hz hC
theorem LV{new:List Value}{cs:List Value}{cs':List Value}{t:TypeId}{L':List qZ}{n:Nat}(hM:qF w W L)(hg:o.guard=none){ty:TypeId}{x y:Operand}(ho:o.op= .store ty x y){g off:Nat}(hx:a.eval x= .pointer (some ⟨g,off,none⟩))
 (hy:Ev (a.eval y) new:=by(constructor<;>fail)) (hk:Lk L g cs t:=by((repeat constructor)<;>fail)) (hc:UX cs off new cs':=by((repeat constructor)<;>fail)) (hu:Up L g cs cs' t L':=by((repeat constructor)<;>fail))
 (hi:List.lookup ty (ZA++TY)=some n:=by rfl) (hn:new.length=n:=by rfl) (h1:new.all (·.oneCell')=true:=by rfl):wS (∀(_:Nat) W',qF w W' L'→wpList Tryz.prog ops Q rest (a.put o.dst undef) W') (wpList Tryz.prog ops Q (o::rest) a W):=
 fun h=>aS hM hg ho hx (h 0) hy hk hc hu hi hn h1
theorem uC{g:Nat}{cs:List Value}{t:TypeId}(_:qF w W ((g,cs,t)::L)):∃x,x=g:=⟨_,rfl⟩
theorem qe{G' G:Prop}(k:G')(q:DW G:=by first|with_reducible exact Au|with_reducible exact Av|with_reducible exact Aw|with_reducible exact AC|fail)(s:wS G' G:=by first|exact LR hM rfl rfl|exact LU hM rfl rfl|exact LV hM rfl rfl rfl|exact uB hM rfl rfl|exact uN hM rfl rfl|fail):G:=s k
theorem zC{G' G:Prop}(k:G')(q:DW G:=by with_reducible exact Au)(s:wS G' G:=by first|exact uL hM rfl rfl|exact uM hM rfl rfl|fail):G:=s k
theorem LZ{G' G:Prop}(k:G')(q:DW G:=by with_reducible exact Av)(s:wS G' G:=by first|exact uS hM rfl rfl rfl|fail):G:=s k
theorem qq0{G' G:Prop}(k:G')(q:DW G:=by first|with_reducible exact Aw|with_reducible exact AC|fail)(s:wS G' G:=by first|exact uB hM rfl rfl|exact uN hM rfl rfl|fail):G:=s k
theorem AE{P:Program}{f:FuncId}{xs:Array Value}{v:Value}{R:Ending→World→Prop}(hM:qF w W L):Rl (Calls P f xs W fun e w'=>e= .returned v∧Below W.heap.size W w') (∀W1,qF w W1 L→R (.returned v) W1) (Calls P f xs W R):=fun c k=>cb hM c k
theorem AF{P:Program}{f:FuncId}{xs:Array Value}{v:Value}{R:Ending→World→Prop}(hM:qF w W L):Rl (Calls P f xs W fun e w'=>e= .returned v∧∃n,w'=W.drewN n) (∀n,qF w (W.drewN n) L→R (.returned v) (W.drewN n)) (Calls P f xs W R):=fun c k=>c.mono (by
 rintro e w' ⟨rfl,n,rfl⟩
 exact k n (zA hM n))
theorem qt{F G' G:Prop}(c:F)(k:G')(s:Rl F G' G:=by with_reducible exact AE hM):G:=s c k
theorem Gr{F G' G:Prop}(c:F)(k:G')(s:Rl F G' G:=by with_reducible exact AF hM):G:=s c k
theorem qj{G H:Prop}(k:H)(n:G=H:=by conv=>lhs;try simp only[pS,pN,sA,sB,sC]):G:=n.mpr k
end
section
variable{l:List Oper}{Q:Exit→Act→World→Prop}{a:Act}{w W:World}{L K:List qZ}{o:Oper}{fuel:Nat}{listed:Array Bool}
theorem kP{P:Program}(i:Nat){v:Value}(hM:qF w W L)(hK:∀b∈K,b∈L)(h:wpAnyH P .any l.toArray Q (Held w K) fuel (listed.setIfInBounds i true) (a.put o.dst v) W)(hn:tN l i o:=by exact ym rfl)
 (hs:Region.noSelect l.toArray=true:=by kernel_rfl) (hf:Region.free .any l.toArray listed i=true:=by kernel_rfl) (hr:(Region.ready .any l.toArray listed).contains i=true:=by kernel_rfl)
 (hgd:o.guard=none:=by rfl) (hv:∀W,(execOp a.eval o).run P W= .ok (.value v) W:=by(intro W0;go_simp<;>with_reducible rfl)) (hQ:∀c a w v,Q (.panic c) (a.put o.dst v) w→Q (.panic c) a w:=by exact fun _ _ _ _ h=>h):wpAnyH P .any l.toArray Q (Held w K) (fuel+1) listed a W:=
  NT hM hK hn hs hf hr hgd hv hQ h
theorem kL(i:Nat){v:Value}{cs:List Value}{t:TypeId}(hM:qF w W L)(hK:∀b∈K,b∈L)(h:wpAnyH Tryz.prog .any l.toArray Q (Held w K) fuel (listed.setIfInBounds i true) (a.put o.dst v) W)(hn:tN l i o:=by exact ym rfl)
 (hs:Region.noSelect l.toArray=true:=by kernel_rfl) (hf:Region.free .any l.toArray listed i=true:=by kernel_rfl) (hr:(Region.ready .any l.toArray listed).contains i=true:=by kernel_rfl) (hgd:o.guard=none:=by rfl) {ty:TypeId} {x:Operand} (ho:o.op= .load ty x:=by rfl) {g off:Nat} (hx:a.eval x= .pointer (some ⟨g,off,none⟩):=by rfl)
 (hl:Lk K g cs t:=by((repeat constructor)<;>fail)) (hg:Jw.contains ty=true:=by rfl) (hv:cs[off]? =some v:=by rfl) (hQ:∀c a w v,Q (.panic c) (a.put o.dst v) w→Q (.panic c) a w:=by exact fun _ _ _ _ h=>h):wpAnyH Tryz.prog .any l.toArray Q (Held w K) (fuel+1) listed a W:=
  iW hM hK hn hs hf hr hgd ho hx hl (ur hg) hv hQ h
theorem kM(i:Nat){cs:List Value}{t:TypeId}{n:Nat}{C:List Value}(hM:qF w W L)(hK:∀b∈K,b∈L)(h:wpAnyH Tryz.prog .any l.toArray Q (Held w K) fuel (listed.setIfInBounds i true) (a.put o.dst (.agg C.toArray)) W)(hn:tN l i o:=by exact ym rfl)
 (hs:Region.noSelect l.toArray=true:=by kernel_rfl) (hf:Region.free .any l.toArray listed i=true:=by kernel_rfl) (hr:(Region.ready .any l.toArray listed).contains i=true:=by kernel_rfl) (hgd:o.guard=none:=by rfl) {ty:TypeId} {x:Operand} (ho:o.op= .load ty x:=by rfl) {g off:Nat} (hx:a.eval x= .pointer (some ⟨g,off,none⟩):=by rfl)
 (hl:Lk K g cs t:=by((repeat constructor)<;>fail)) (hg:xu.contains ty=true:=by rfl) (hz:List.lookup ty (ZA++TY)=some n:=by rfl) (hC:Part cs off n C:=by((repeat constructor)<;>fail)) (hQ:∀c a w v,Q (.panic c) (a.put o.dst v) w→Q (.panic c) a w:=by exact fun _ _ _ _ h=>h):wpAnyH Tryz.prog .any l.toArray Q (Held w K) (fuel+1) listed a W:=
  NS hM hK hn hs hf hr hgd ho hx hl (Zg hg) (bQ hz) hC hQ h
end
section
variable{P:Program}{l:List Oper}{Q:Exit→Act→World→Prop}{a:Act}{w W:World}{L K:List qZ}{o:Oper}
variable{fuel:Nat}{listed:Array Bool}
theorem NU{cs:List Value}{t:TypeId}{n:Nat}{C:List Value}(hM:qF w W L)(hK:∀b∈K,b∈L){i:Nat}(hn:tN l i o)(hs:Region.noSelect l.toArray=true)(hf:Region.free .any l.toArray listed i=true)(hr:(Region.ready .any l.toArray listed).contains i=true)
 (hw:Region.wanted o (yielded l.toArray a.tmps)=true) {ty:TypeId} {x:Operand} (ho:o.op= .load ty x) {g off:Nat} (hx:a.eval x= .pointer (some ⟨g,off,none⟩))
 (hl:Lk K g cs t) (hg:∀w,(isAgg ty).run P w= .ok true w) (hz:∀w,(sizeOf ty).run P w= .ok n w) (hC:Part cs off n C)
 (hQ:∀c a w v,Q (.panic c) (a.put o.dst v) w→Q (.panic c) a w)
 (h:wpAnyH P .any l.toArray Q (Held w K) fuel (listed.setIfInBounds i true) (a.put o.dst (.agg C.toArray)) W):wpAnyH P .any l.toArray Q (Held w K) (fuel+1) listed a W:=
  wpAnyH_take hn.get hs hf hr (fun c a w=>hQ c a w _) (.inl ⟨hw,fun W1 hS=>by
   unfold execOp
   have hp:∀(j:Nat) (v:Value),C[j]? =some v→W1.cell? ⟨g,off+j,none⟩=some v:=by
    intro j v hj;rw[←hC.eq.1,List.getElem?_take]at hj;split at hj
    ·rw[List.getElem?_drop]at hj;rw[hS.cell hl];exact hj
    ·cases hj
   simp only[ho,hx,Instr.loadAt,Instr.sureAddr,Sem.run_bind,Sem.run_pure,Result.andThen_ok,zL ty g off n C hg (yA W1 hz) hC.eq.2 hp]⟩) (jh hM hK) h
theorem iX{v:Value}{cs:List Value}{t:TypeId}(hM:qF w W L)(hK:∀b∈K,b∈L){i:Nat}(hn:tN l i o)(hs:Region.noSelect l.toArray=true)(hf:Region.free .any l.toArray listed i=true)(hr:(Region.ready .any l.toArray listed).contains i=true)
 (hw:Region.wanted o (yielded l.toArray a.tmps)=true) {ty:TypeId} {x:Operand} (ho:o.op= .load ty x) {g off:Nat} (hx:a.eval x= .pointer (some ⟨g,off,none⟩))
 (hl:Lk K g cs t) (hg:∀w,(isAgg ty).run P w= .ok false w) (hv:cs[off]? =some v)
 (hQ:∀c a w v,Q (.panic c) (a.put o.dst v) w→Q (.panic c) a w)
 (h:wpAnyH P .any l.toArray Q (Held w K) fuel (listed.setIfInBounds i true) (a.put o.dst v) W):wpAnyH P .any l.toArray Q (Held w K) (fuel+1) listed a W:=
  wpAnyH_take hn.get hs hf hr (fun c a w=>hQ c a w _) (.inl ⟨hw,fun W1 hS=>by
   unfold execOp;have hl1:(load ⟨g,off,none⟩).run P W1= .ok v W1:=by simp[(hS.cell hl off).trans hv]
   simp only[ho,hx,Instr.loadAt,Instr.sureAddr,Sem.run_bind,Sem.run_pure,Result.andThen_ok,loadVar,hg]
   simp[hl1]⟩) (jh hM hK) h
theorem NV{v:Value}(hM:qF w W L)(hK:∀b∈K,b∈L){i:Nat}(hn:tN l i o)(hs:Region.noSelect l.toArray=true)(hf:Region.free .any l.toArray listed i=true)(hr:(Region.ready .any l.toArray listed).contains i=true)
 (hw:Region.wanted o (yielded l.toArray a.tmps)=true) (hv:∀W,(execOp a.eval o).run P W= .ok (.value v) W)
 (hQ:∀c a w v,Q (.panic c) (a.put o.dst v) w→Q (.panic c) a w)
 (h:wpAnyH P .any l.toArray Q (Held w K) fuel (listed.setIfInBounds i true) (a.put o.dst v) W):wpAnyH P .any l.toArray Q (Held w K) (fuel+1) listed a W:=
  wpAnyH_take hn.get hs hf hr (fun c a w=>hQ c a w _) (.inl ⟨hw,fun W1 _=>hv W1⟩) (jh hM hK) h
theorem NW{i:Nat}(hn:tN l i o)(hr:Region.ready .any l.toArray listed=[i])(hw:Region.wanted o (yielded l.toArray a.tmps)=true)
 (h:∀K':Act→World→Prop,Shut (∀a w1,Held w K w1→wpAnyH P .any l.toArray Q (Held w K) fuel (listed.setIfInBounds i true) a w1→K' a w1)→Oper.wp P o a W K' Q):wpAnyH P .any l.toArray Q (Held w K) (fuel+1) listed a W:=
 wpAnyH_ready hr (by simp) (AllReadyH.cons hn.get (fun K' hK=>by
  rw[if_pos hw]
  exact h K' (fun a w1 h1 h2=>hK.out a w1 h1 (fun _=>h2))) AllReadyH.nil)
theorem NZ(hM:qF w W L)(hK:∀b∈K,b∈L){i:Nat}(hn:tN l i o)(hs:Region.noSelect l.toArray=true)(hf:Region.free .any l.toArray listed i=true)(hr:(Region.ready .any l.toArray listed).contains i=true)
 (hw:Region.wanted o (yielded l.toArray a.tmps)=false)
 (hQ:∀c a w v,Q (.panic c) (a.put o.dst v) w→Q (.panic c) a w)
 (h:wpAnyH P .any l.toArray Q (Held w K) fuel (listed.setIfInBounds i true) (a.put o.dst undef) W):wpAnyH P .any l.toArray Q (Held w K) (fuel+1) listed a W:=
  wpAnyH_take hn.get hs hf hr (fun c a w=>hQ c a w _) (.inr ⟨hw,rfl⟩) (jh hM hK) h
theorem iY{i:Nat}(hM:qF w W L)(hK:∀b∈K,b∈L)(hn:tN l i o)(hr:Region.ready .any l.toArray listed=[i])(hw:Region.wanted o (yielded l.toArray a.tmps)=false)
 (h:wpAnyH P .any l.toArray Q (Held w K) fuel (listed.setIfInBounds i true) (a.put o.dst undef) W):wpAnyH P .any l.toArray Q (Held w K) (fuel+1) listed a W:=
 wpAnyH_ready hr (by simp) (AllReadyH.cons hn.get (fun K' hK'=>by
  rw[if_neg (by rw[hw];simp)]
  exact hK'.out _ _ (jh hM hK) (fun _=>h)) AllReadyH.nil)
end
end Go.Proofs.YtiegohjobhehcaaGreatDoor
