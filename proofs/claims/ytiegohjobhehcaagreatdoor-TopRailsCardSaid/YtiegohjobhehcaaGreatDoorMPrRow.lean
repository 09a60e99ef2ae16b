/-
  The walk of Step, by boxes, on a path without error.
-/
import Derived.Test.YtiegohjobhehcaaGreatDoorMDrM
import Derived.Test.YtiegohjobhehcaaGreatDoorMPrMem
import Derived.Deep.OwnRows
namespace Go.Proofs.YtiegohjobhehcaaGreatDoor
open Go.RowKit
set_option linter.unusedVariables false
set_option linter.unusedSimpArgs false
theorem Zh:yw Tryz.prog 3 1 8:=by unfold yw;kernel_rfl
section
variable{l:List Oper}{Q:Exit→Act→World→Prop}{a:Act}{w W:World}{L K:List qZ}{o:Oper}{fuel:Nat}{listed:Array Bool}
theorem Qp(i:Nat){C:List Value}{g off:Nat}{ty:TypeId}{x:Operand}(hM:qF w W L)(hC:∀(j:Nat) (v:Value),C[j]? =some v→w.cell? ⟨g,off+j,none⟩=some v)
 (h:wpAnyH Tryz.prog .any l.toArray Q (Held w K) fuel (listed.setIfInBounds i true) (a.put o.dst (.agg C.toArray)) W) (hk:Ks K L:=by((repeat constructor)<;>fail)) (hn:tN l i o:=by exact ym rfl)
 (hs:Region.noSelect l.toArray=true:=by kernel_rfl) (hf:Region.free .any l.toArray listed i=true:=by kernel_rfl) (hr:(Region.ready .any l.toArray listed).contains i=true:=by kernel_rfl) (hw:Region.wanted o (yielded l.toArray a.tmps)=true:=by rfl)
 (ho:o.op= .load ty x:=by rfl) (hx:a.eval x= .pointer (some ⟨g,off,none⟩):=by rfl) (hg:xu.contains ty=true:=by rfl) (hz:List.lookup ty (ZA++TY)=some C.length:=by rfl)
 (hQ:∀c a w v,Q (.panic c) (a.put o.dst v) w→Q (.panic c) a w:=by exact fun _ _ _ _ h=>h):wpAnyH Tryz.prog .any l.toArray Q (Held w K) (fuel+1) listed a W:=
  wpAnyH_take hn.get hs hf hr (fun c a w=>hQ c a w _) (.inl ⟨hw,fun W1 hS=>by
   unfold execOp
   simp only[ho,hx,Instr.loadAt,Instr.sureAddr,Sem.run_bind,Sem.run_pure,Result.andThen_ok,zL ty g off C.length C (Zg hg) (yA W1 (bQ hz)) rfl (fun j v hj=>hS.old (hC j v hj))]⟩) (jh hM hk.mem) h
end
theorem Ma{w W:World}{L:List qZ}(h:qF w W L):qF w W []:=⟨h.below,(fun _ _ _ h=>by cases h),List.nodup_nil⟩
theorem uY{e:TypeId}{size:Nat}{v:Value}{n:Nat}{xs:List Value}{B:List qZ}(h:bZ e size v n xs B):∃S cap,v= .slice S n cap∧n≤cap:=by
 cases h with
 |nil=>exact⟨none,0,rfl,Nat.le_refl _⟩
 | @row g cap n cur xs h1 _ _ _ _=>exact⟨_,cap,rfl,h1⟩
theorem xw{e:TypeId}{size:Nat}{S:Option Addr}{n cap:Nat}{xs:List Value}{B:List qZ}(h:bZ e size (.slice S n cap) n xs B)(hn:0<n):∃g cur,S=some ⟨g,0,none⟩∧B=[(g,cur,e)]∧cur.take (n*size)=xs:=by
 cases h with
 |nil=>omega
 |row _ _ _ h4 _=>exact⟨_,_,rfl,rfl,h4⟩
section
variable{P:Program}{w W:World}{L pre B:List qZ}
theorem wT{ops:Array Oper}{rest:List Oper}{o:Oper}{a:Act}{Q:Exit→Act→World→Prop}{s x:Operand}{t:TypeId}(hM:qF w W L)(hgd:o.guard=none)
 (ho:o.op= .call {callee:= .builtin .append,args:= #[s,x],argTypes:= #[t,t]}) {e:TypeId} {size bytes:Nat} {v:Value} {n:Nat} {xs:List Value} (hs:a.eval s=v) {g1 m c:Nat} (hx:a.eval x= .slice (some ⟨g1,0,none⟩) m c)
 (hO:bZ e size v n xs B) (hS:Sx L pre B) (ht:P.underlying t=some (.slice e)) (hI:yw P e size bytes) {cur news:List Value} {tg:TypeId} (hl:Lk L g1 cur tg) (hc:cur.take (m*size)=news) (hn:news.length=m*size) (h1:∀u∈news,u.oneCell'=true) (hz:0<size) (hm0:0<m) (hb:(n+m)*bytes≤140737488355328) (hm:n+m≤maxLen)
 (h:∀g cap B' W',bZ e size (.slice (some ⟨g,0,none⟩) (n+m) cap) (n+m) (xs++news) B'→qF w W' (pre++B')→wpList P ops Q rest (a.put o.dst (.slice (some ⟨g,0,none⟩) (n+m) cap)) W'):wpList P ops Q (o::rest) a W:=
 wpList_plain hgd fun K hK=>by
  obtain⟨i,hi,hz0⟩:=Option.map_eq_some_iff.1 hI;simp only[Prod.mk.injEq]at hz0;obtain⟨z1,z2,z3⟩:=hz0;obtain⟨z,hz3,hz4⟩:=Option.map_eq_some_iff.1 z1;have hr:=hM.rows g1 cur tg hl.mem;refine wp_append_lies W s x t ho w.heap.size e i z size bytes ht hi hz3 z2 z3 hz4 hz v n xs hs (hO.owns hM hS.eq) ⟨g1,0,none⟩ m c news hx hn (fun j u hj=>World.news_of_block hr.2 j u ?_) h1 hm0 hm hb hM.below.size _ rfl (fun g cap W' h2 h3 h4 _=> ?_)
  ·have hj2:j<m*size:=by have:=(List.getElem?_eq_some_iff.1 hj).1;omega
   rw[←hc,List.getElem?_take,if_pos hj2]at hj;simpa using hj
  ·obtain⟨B',hB,hM'⟩:=uI hM hS.eq hO h3 h4 h2;exact hK _ _ (h g cap B' W' hB hM')
theorem wU{ops:Array Oper}{rest:List Oper}{o:Oper}{a:Act}{Q:Exit→Act→World→Prop}{s x:Operand}{t e:TypeId}{size bytes:Nat}(hgd:o.guard=none)
 (ho:o.op= .call {callee:= .builtin .append,args:= #[s,x],argTypes:= #[t,t]}) {S S2:Option Addr} {n cap c:Nat} (hs:a.eval s= .slice S n cap) (hx:a.eval x= .slice S2 0 c) (hcap:n≤cap) (ht:P.underlying t=some (.slice e)) (hI:yw P e size bytes)
 (h:wpList P ops Q rest (a.put o.dst (.slice S n cap)) W):wpList P ops Q (o::rest) a W:=
 wpList_plain hgd fun K hK=>by
  obtain⟨i,hi,hz0⟩:=Option.map_eq_some_iff.1 hI;simp only[Prod.mk.injEq]at hz0;obtain⟨z1,z2,z3⟩:=hz0
  have hr:(Builtin.append_ #[t,t] o.type #[.slice S n cap,.slice S2 0 c]).run P W= .ok (.slice S n cap) W:=by
   rcases S with _|b<;>rcases S2 with _|b2<;>simp[Builtin.append_,run_underlying ht,sizeOf,typeInfo,hi,Builtin.lenOf,Builtin.firstCells,loadCells,loadCellsFrom,hcap,storeCells]
  unfold Oper.wp execOp;simp only[ho,resolve,invoke,builtin,Sem.run_bind,Sem.run_pure,Result.andThen_ok,List.map_toArray,List.map_cons,List.map_nil,hs,hx,hr];exact hK _ _ h
end
theorem uK{w W:World}{L L':List qZ}(h:qF w W L)(hs:L'.Sublist L):qF w W L':=
 ⟨h.below,fun g cs t hm=>h.rows g cs t (hs.subset hm),List.Nodup.sublist (hs.map _) h.nodup⟩
theorem qq9:yw Tryz.prog 2 1 8:=by unfold yw;kernel_rfl
theorem Gs:(Tryz.prog.info? 2).map (fun i=>(i.zero,i.size,i.bytes))=some (some (Iv 0),1,8):=qM
def AI(cs:List Value)(n:Nat):Prop:=cs.length=n∧∀i,i<n→∃v,cs[i]? =some (Iv v)∧qz v
theorem Gt(z:Value)(n:Nat):madeCells #[z] n=(List.replicate n z).toArray:=by
 apply Array.ext
 ·simp[madeCells]
 ·intro i h1 h2;simp[madeCells,Nat.mod_one]
theorem FG(n:Nat):AI (List.replicate n (Iv 0)) n:=⟨jL,fun i hi=>⟨0,by simp[hi],by decide,qG⟩⟩
theorem FH{cs:List Value}{n k:Nat}{v:Int}(h:AI cs n)(hk:k<n)(hv:qz v):AI (jg cs k [Iv v]) n:=by
 have hl:k+[Value.int .i64 v].length≤cs.length:=by have:=h.1;simp;omega
 refine⟨by rw[gM hl];exact h.1,fun i hi=> ?_⟩;rw[xV hl];by_cases h1:i<k
 ·rw[if_pos h1];exact h.2 i hi
 ·rw[if_neg h1];by_cases h2:i<k+1
  ·have e:i=k:=qg;subst e;rw[if_pos jL];exact⟨v,by simp,hv⟩
  ·rw[if_neg (by simpa using h2)];exact h.2 i hi
theorem Gu{w W:World}{L:List qZ}{g n:Nat}{cs:List Value}{t:TypeId}(hM:qF w W L)(h:Hid (AI cs n))(hl:Lk L g cs t:=by((repeat constructor)<;>fail)):∃f,jT W (some ⟨g,0,none⟩) n f:=by
 have h:=h.out;have hm:=hl.mem;refine⟨fun i=>((cs[i]?).bind fun v=>match v with| .int _ x=>some x|_=>none).getD 0,fun k hk=>⟨g,0,rfl,?_⟩⟩;obtain⟨v,hv,hi⟩:=h.2 k hk;simp only[hv,Option.bind_some,Option.getD_some];refine⟨?_,hi⟩;rw[cell_of_row W g _ _ t (0,0) (hM.rows g cs t hm).2];simpa using hv
section
variable{ops:Array Oper}{Q:Exit→Act→World→Prop}{a:Act}{w W:World}{L:List qZ}{rest:List Oper}{o:Oper}
theorem EP{ty:TypeId}{x y:Operand}{P:Program}{d:Option Tmp}{t:TypeId}{p:String}{l:Array Edge}{g:Option (Nat×Bool)}
 (h:wpList P ops Q ({dst:=d,op:= .makeSlice ty x y,type:=t,pos:=p,after:=l,guard:=g}::rest) a w):wpList P ops Q ({dst:=d,op:= .makeSlice ty x y,type:=t,pos:=p,after:=l,guard:=g}::rest) a w:=h
theorem di{x y:Operand}{n:Nat}(hM:qF w W L)(hg:o.guard=none)(ho:o.op= .makeSlice 32 x y)(hx:a.eval x=Iv (n:Int))(hy:a.eval y=Iv (n:Int))(hn:n≤1000000)
 (h:∀g cs W',Hid (AI cs n)→qF w W' ((g,cs,2)::L)→wpList Tryz.prog ops Q rest (a.put o.dst (.slice (some ⟨g,0,none⟩) n n)) W'):wpList Tryz.prog ops Q (o::rest) a W:=by
 obtain⟨i,hi,hz⟩:=Option.map_eq_some_iff.1 Gs;simp only[Prod.mk.injEq]at hz;refine wpList_make_row W hg x y _ ho 2 i (Iv 0) Tryz.underlying32 hi hz.1 hz.2.1 rfl .i64 .i64 n hx hy (by rw[hz.2.2];omega) qg ?_;rw[Gt];exact h _ _ _ (FG n) (kR hM _ _)
theorem Uc{x y:Operand}{cs:List Value}{t:TypeId}{v:Int}{n g off:Nat}{L':List Value→List qZ}(hM:qF w W L)(hg:o.guard=none)(ho:o.op= .store 2 x y)(hx:a.eval x= .pointer (some ⟨g,off,none⟩))(hy:a.eval y=Iv v)
 (hA:Hid (AI cs n)) (hk:off<n) (hv:qz v) (h:∀cs' W',Hid (AI cs' n)→qF w W' (L' cs')→wpList Tryz.prog ops Q rest (a.put o.dst undef) W')
 (hl:Lk L g cs t:=by((repeat constructor)<;>fail)) (hu:∀cs',Up L g cs cs' t (L' cs'):=by(intro cs';(repeat constructor)<;>fail)):wpList Tryz.prog ops Q (o::rest) a W:=by
 have hlen:off+1≤cs.length:=by have:=hA.out.1;omega
 exact BZ hM hg ho hx (new:=[Iv v]) (by rw[hy];exact .int) hl hlen (hu _) (bQ rfl) rfl (yf rfl) fun W' hW=>h _ W' (hide (FH hA.out hk hv)) hW
end
def lp(n:Nat)(f:Nat→Int×Int):List (Int×Int):=(List.range n).map f
theorem QQ(n:Nat)(f:Nat→Int×Int):(lp n f).length=n:=by simp[lp]
theorem Cb{n k:Nat}(f:Nat→Int×Int)(h:k<n):pq (lp n f) k=f k:=by
 unfold pq lp;rw[List.getD_eq_getElem?_getD,List.getElem?_map,List.getElem?_range h];rfl
theorem rQ{w:World}{S:Option Addr}{n:Nat}{f:Nat→Int×Int}(h:zY w S n f):zY w S (lp n f).length (pq (lp n f)):=fun k hk=>by
 rw[QQ]at hk;rw[Cb f hk];exact h k hk
def Wd(l:List (Int×Int)):List Value:=l.flatMap fun x=>[Iv x.1,Iv x.2]
theorem JL:∀l:List (Int×Int),(Wd l).length=l.length*2
 | []=>rfl
 |x::l=>by
  have:=JL l;unfold Wd at*;simp only[List.flatMap_cons,List.length_append,List.length_cons,List.length_nil];omega
theorem Bs:∀(l:List (Int×Int)) (k:Nat),k<l.length→(Wd l)[k*2]? =some (Iv (pq l k).1)∧(Wd l)[k*2+1]? =some (Iv (pq l k).2)
 | [],k,h=>by simp at h
 |x::l,0,h=>by simp[Wd,pq]
 |x::l,k+1,h=>by
  have h2:=Bs l k (by simpa using h);have e:∀j,(Wd (x::l))[j+2]? =(Wd l)[j]? :=fun j=>by simp[Wd]
  rw[show(k+1)*2=k*2+2 by omega,show k*2+2+1=k*2+1+2 by omega,e,e];have e2:pq (x::l) (k+1)=pq l k:=by simp[pq]
  rw[e2];exact h2
theorem dI(l:List (Int×Int)):∀u∈Wd l,u.oneCell'=true:=by
 intro u hu;obtain⟨x,_,hx⟩:=List.mem_flatMap.1 hu;simp only[List.mem_cons,List.not_mem_nil,or_false]at hx;rcases hx with rfl|rfl<;>rfl
structure PL(cs:List Value)(l:List (Int×Int)):Prop where
 le:l.length*2≤cs.length
 at_:∀k,k<l.length→cs[k*2]? =some (Iv (pq l k).1)∧cs[k*2+1]? =some (Iv (pq l k).2)
 i64:∀k,k<l.length→qz (pq l k).1∧qz (pq l k).2
theorem We{cs:List Value}{l:List (Int×Int)}(h:cs.take (l.length*2)=Wd l)(hi:∀k,k<l.length→qz (pq l k).1∧qz (pq l k).2):PL cs l:=by
 have hl:=congrArg List.length h;rw[List.length_take,JL]at hl;refine⟨qg,fun k hk=> ?_,hi⟩;have h2:=Bs l k hk;rw[←h,List.getElem?_take,if_pos qg,List.getElem?_take,if_pos qg]at h2;exact h2
theorem xD{w W:World}{L:List qZ}{g:Nat}{cs:List Value}{t:TypeId}{l:List (Int×Int)}(hM:qF w W L)(h:PL cs l)(hl:Lk L g cs t):zY W (some ⟨g,0,none⟩) l.length (pq l):=fun k hk=>by
 have h1:=h.at_ k hk;refine⟨g,0,rfl,fun j v hj=> ?_,h.i64 k hk⟩;rw[Nat.zero_add,hM.cell hl]
 match j,hj with
 |0,hj=>exact h1.1.trans hj
 |1,hj=>exact h1.2.trans hj
 |j+2,hj=>simp at hj
theorem tw{cs:List Value}{off:Nat}{v:Value}(h:off<cs.length)(k:Nat):(jg cs off [v])[k]? =if k=off then some v else cs[k]? :=by
 have hl:off+[v].length≤cs.length:=by simp;omega
 rw[xV hl];by_cases h1:k<off
 ·rw[if_pos h1,if_neg qg]
 ·rw[if_neg h1];by_cases h2:k=off
  ·subst h2;simp
  ·rw[if_neg (by simp;omega),if_neg h2]
theorem Wf{cs:List Value}{l:List (Int×Int)}{i:Nat}{x:Int}(h:PL cs l)(hi:i<l.length)(hx:qz x):PL (jg cs (i*2+1) [Iv x]) (l.set i ((pq l i).1,x)):=by
 have hlt:i*2+1<cs.length:=by have:=h.le;omega
 refine⟨by rw[List.length_set,gM (by simp;omega)];exact h.le,fun k hk=> ?_,fun k hk=> ?_⟩
 ·rw[List.length_set]at hk;rw[tw hlt,tw hlt,YG l _ hi,if_neg qg];have h1:=h.at_ k hk;by_cases e:k=i
  ·subst e;rw[if_pos rfl,if_pos rfl];exact⟨h1.1,rfl⟩
  ·rw[if_neg (show¬k*2+1=i*2+1 by omega),if_neg e];exact h1
 ·rw[List.length_set]at hk;rw[YG l _ hi];by_cases e:k=i
  ·subst e;rw[if_pos rfl];exact⟨(h.i64 k hk).1,hx⟩
  ·rw[if_neg e];exact h.i64 k hk
theorem Ea{cs:List Value}{l:List (Int×Int)}{i:Nat}{x:Int}(h:PL cs l)(hi:i<l.length)(hx:qz x):PL (jg cs (i*2) [Iv x]) (l.set i (x,(pq l i).2)):=by
 have hlt:i*2<cs.length:=by have:=h.le;omega
 refine⟨by rw[List.length_set,gM (by simp;omega)];exact h.le,fun k hk=> ?_,fun k hk=> ?_⟩
 ·rw[List.length_set]at hk;rw[tw hlt,tw hlt,YG l _ hi,if_neg (show¬k*2+1=i*2 by omega)];have h1:=h.at_ k hk;by_cases e:k=i
  ·subst e;rw[if_pos rfl,if_pos rfl];exact⟨rfl,h1.2⟩
  ·rw[if_neg (show¬k*2=i*2 by omega),if_neg e];exact h1
 ·rw[List.length_set]at hk;rw[YG l _ hi];by_cases e:k=i
  ·subst e;rw[if_pos rfl];exact⟨hx,(h.i64 k hk).2⟩
  ·rw[if_neg e];exact h.i64 k hk
structure IL(cs:List Value)(n:Nat)(f:Nat→Int):Prop where
 le:n≤cs.length
 at_:∀k,k<n→cs[k]? =some (Iv (f k))∧qz (f k)
theorem Zq{w W:World}{L:List qZ}{g n:Nat}{cs:List Value}{t:TypeId}{f:Nat→Int}(hM:qF w W L)(h:IL cs n f)(hl:Lk L g cs t):jT W (some ⟨g,0,none⟩) n f:=fun k hk=>
 ⟨g,0,rfl,by rw[Nat.zero_add,hM.cell hl];exact(h.at_ k hk).1,(h.at_ k hk).2⟩
def upd(f:Nat→Int)(i:Nat)(x:Int):Nat→Int:=fun k=>if k=i then x else f k
theorem Wg{cs:List Value}{n i:Nat}{f:Nat→Int}{x:Int}(h:IL cs n f)(hi:i<n)(hx:qz x):IL (jg cs i [Iv x]) n (upd f i x):=by
 have hlt:i<cs.length:=by have:=h.le;omega
 refine⟨by rw[gM (by simp;omega)];exact h.le,fun k hk=> ?_⟩;rw[tw hlt];unfold upd;by_cases e:k=i
 ·rw[if_pos e,if_pos e];exact⟨rfl,hx⟩
 ·rw[if_neg e,if_neg e];exact h.at_ k hk
theorem Rg(n:Nat):IL (List.replicate n (Iv 0)) n (fun _=>0):=⟨jL,fun k hk=>⟨by simp[hk],by decide,qG⟩⟩
def qq5(n:Nat)(f:Nat→Int):List Value:=(List.range n).map fun k=>Iv (f k)
theorem Mx(n:Nat)(f:Nat→Int):(qq5 n f).length=n:=by simp[qq5]
theorem My{n k:Nat}(f:Nat→Int)(h:k<n):(qq5 n f)[k]? =some (Iv (f k)):=by
 unfold qq5;rw[List.getElem?_map,List.getElem?_range h];rfl
theorem Eb{cs:List Value}{n:Nat}{f:Nat→Int}(h:cs.take n=qq5 n f)(hi:∀k,k<n→qz (f k)):IL cs n f:=by
 have hl:=congrArg List.length h;rw[List.length_take,Mx]at hl;refine⟨qg,fun k hk=>⟨?_,hi k hk⟩⟩;have h2:=My f hk;rw[←h,List.getElem?_take,if_pos hk]at h2;exact h2
theorem Yu{w W0 W':World}{L Br:List qZ}(h:qF w W0 L)(k:qF W0 W' Br):qF w W' (Br++L):=by
 have h2:=qD h k.below;refine⟨h2.below,fun g cs t hm=> ?_,?_⟩
 ·rcases List.mem_append.1 hm with hm|hm
  ·exact⟨Nat.le_trans h.below.size (k.rows g cs t hm).1,(k.rows g cs t hm).2⟩
  ·exact h2.rows g cs t hm
 ·rw[List.map_append,List.nodup_append];refine⟨k.nodup,h.nodup,fun b hb a ha he=> ?_⟩;obtain⟨⟨a1,a2,a3⟩,hx,e1⟩:=List.mem_map.1 ha;obtain⟨⟨b1,b2,b3⟩,hy,e2⟩:=List.mem_map.1 hb;have:=h.lt hx;have:=(k.rows b1 b2 b3 hy).1;simp only at e1 e2;omega
abbrev KI(t:TypeId)(n:Nat)(C:List Value→Prop)(w:World)(e:Ending)(w':World):Prop:=
 (∃q:Int,e= .returned (.tuple #[.slice none 0 0,Iv q])∧(qz q∧(q==0)=false∧(q !=0)=true)∧Below w.heap.size w w')∨
 ∃(g cap:Nat) (cs:List Value),e= .returned (.tuple #[.slice (some ⟨g,0,none⟩) n cap,Iv 0])∧(n≤cap∧cap≤maxLen)∧C cs∧qF w w' [(g,cs,t)]
theorem Qf{t:TypeId}{n:Nat}{C:List Value→Prop}{P:Program}{f:FuncId}{xs:Array Value}{w W:World}{L:List qZ}{R:Ending→World→Prop}(hM:qF w W L)(hc:Calls P f xs W (KI t n C W))
 (h0:∀q W1,qz q∧(q==0)=false∧(q !=0)=true→qF w W1 L→R (.returned (.tuple #[.slice none 0 0,Iv q])) W1)
 (h1:∀g cap cs W1,n≤cap∧cap≤maxLen→C cs→qF w W1 ((g,cs,t)::L)→R (.returned (.tuple #[.slice (some ⟨g,0,none⟩) n cap,Iv 0])) W1):Calls P f xs W R:=
 hc.mono fun e w' hh=>by
  rcases hh with⟨q,he,hq,hb⟩|⟨g,cap,cs,he,hn,hC,hm⟩
  ·subst he;exact h0 q w' hq (qD hM hb)
  ·subst he;exact h1 g cap cs w' hn hC (Yu hM hm)
section
variable{P:Program}{ops:Array Oper}{Q:Exit→Act→World→Prop}{a:Act}{w W:World}{L:List qZ}{rest:List Oper}{o:Oper}
theorem GW{s x:Operand}{t:TypeId}(hM:qF w W L)(hgd:o.guard=none)(ho:o.op= .call {callee:= .builtin .append,args:= #[s,x],argTypes:= #[t,t]})
 {e:TypeId} {bytes:Nat} (hs:a.eval s= .slice none 0 0) {b off m c:Nat} {f:Nat→Int×Int} (hx:a.eval x= .slice (some ⟨b,off,none⟩) m c) (ht:P.underlying t=some (.slice e)) (hI:yw P e 2 bytes) (hP:zY W (some ⟨b,off,none⟩) m f) (hm0:0<m) (hb:m*bytes≤140737488355328) (hm:m≤maxLen)
 (h:∀g cap cs W',PL cs (lp m f)→m≤cap∧cap≤maxLen→qF w W' ((g,cs,e)::L)→wpList P ops Q rest (a.put o.dst (.slice (some ⟨g,0,none⟩) m cap)) W'):wpList P ops Q (o::rest) a W:=
 wpList_plain hgd fun K hK=>by
  obtain⟨i,hi,hz0⟩:=Option.map_eq_some_iff.1 hI;simp only[Prod.mk.injEq]at hz0;obtain⟨z1,z2,z3⟩:=hz0;obtain⟨z,hz3,hz4⟩:=Option.map_eq_some_iff.1 z1;have hO:bZ e 2 (.slice none 0 0) 0 [] []:= .nil;refine wp_append_lies W s x t ho w.heap.size e i z 2 bytes ht hi hz3 z2 z3 hz4 qG (.slice none 0 0) 0 [] hs (hO.owns (L:=L) (pre:=L) hM jL) ⟨b,off,none⟩ m c (Wd (lp m f)) hx (by rw[JL,QQ]) (fun j u hj=> ?_) (dI _) hm0 qg (by rw[Nat.zero_add];exact hb) hM.below.size _ rfl (fun g cap W' h2 h3 h4 _=> ?_)
  ·have hadd:(⟨b,off,none⟩:Addr).add j=⟨b,off+j,none⟩:=by unfold Addr.add;split<;>simp_all
   rw[hadd];have hjl:j<m*2:=by have:=(List.getElem?_eq_some_iff.1 hj).1;rwa[JL,QQ]at this
   obtain⟨k,r,rfl,hr⟩:∃k r,j=k*2+r∧r<2:=⟨j/2,j%2,by omega,qg⟩;have hk:k<m:=qg;have h5:=(ve hP hk).1;have h6:=Bs (lp m f) k (by rw[QQ];exact hk);rw[Cb f hk]at h6;obtain rfl|rfl:r=0∨r=1:=qg
   ·rw[Nat.add_zero]at hj⊢;have:=h5 0 u (by rw[←hj,h6.1];rfl)
    rwa[Nat.add_zero]at this
   ·rw[←Nat.add_assoc];exact h5 1 u (by rw[←hj,h6.2];rfl)
  ·obtain⟨B',hB,hM'⟩:=uI (pre:=L) (B:=[]) hM jL hO h3 h4 h2;have hi64:∀k,k<(lp m f).length→qz (pq (lp m f) k).1∧qz (pq (lp m f) k).2:=fun k hk=>(ve (rQ hP) hk).2
   rw[Nat.zero_add]at hB;obtain⟨g2,cur,e1,e2,e3⟩:=xw hB hm0;injection e1 with e1;injection e1 with e1;subst e1 e2
   have hc:m≤cap∧cap≤maxLen:=by
    cases hB with
    |row q1 q2 _ _ _=>exact⟨q1,q2⟩
   rw[Nat.zero_add];refine hK _ _ (h g cap cur W' (We (by rw[QQ,e3];rfl) hi64) hc (qW hM' List.perm_append_comm))
theorem kH{α:Type}(cells:α→List Value)(y:α){R B:List qZ}{g1 s c:Nat}{xo so:Operand}{t e tg:TypeId}{bytes:Nat}{v:Value}{l:List α}(hM:qF w W ((g1,cells y,tg)::(R++B)))(hgd:o.guard=none)
 (ho:o.op= .call {callee:= .builtin .append,args:= #[so,xo],argTypes:= #[t,t]}) (hs:a.eval so=v) (hx:a.eval xo= .slice (some ⟨g1,0,none⟩) 1 c) (hO:Hid (bZ e s v l.length (l.flatMap cells) B)) (ht:P.underlying t=some (.slice e)) (hI:yw P e s bytes)
 (hn:(cells y).length=s) (h1:(cells y).all (·.oneCell')=true) (hz:0<s) (hb:bytes≤1000) (hl:l.length≤1000000)
 (h:∀V B' W',Hid (bZ e s V (l++[y]).length ((l++[y]).flatMap cells) B')→qF w W' (R++B')→wpList P ops Q rest (a.put o.dst V) W'):wpList P ops Q (o::rest) a W:=by
 have hbb:(l.length+1)*bytes≤140737488355328:=Nat.le_trans (Nat.mul_le_mul (Nat.succ_le_succ hl) hb) qG
 have hsx:∀pre B:List qZ,Sx (pre++B) pre B:=fun pre B=>by
  induction pre with
  |nil=>exact .here
  |cons e pre ih=>exact .tail ih
 refine KZ hM hgd ho hs hx hO.out (.tail (hsx R B)) ht hI .head hn (yf h1) hz hbb (by unfold maxLen;omega) fun g cap B' W' hO' hM'=> ?_
 have e1:(l++[y]).flatMap cells=l.flatMap cells++cells y:=by simp[List.flatMap_append]
 exact h _ B' W' (hide (by rw[e1,List.length_append];exact hO')) (qC hM')
theorem yR{ty:TypeId}{x:Operand}{cs:List Value}{t:TypeId}{v:Value}{g off:Nat}(hM:qF w W L)(hg:o.guard=none)(ho:o.op= .load ty x)(hx:a.eval x= .pointer (some ⟨g,off,none⟩))(hv:cs[off]? =some v)(ha:∀w,(isAgg ty).run P w= .ok false w)
 (h:wpList P ops Q rest (a.put o.dst v) W) (hl:Lk L g cs t:=by((repeat constructor)<;>fail)):wpList P ops Q (o::rest) a W:=iS hM hg ho hx hl ha hv h
theorem Yv{x y:Operand}{cs:List Value}{t:TypeId}{v:Int}{g off:Nat}{L':List qZ}(hM:qF w W L)(hg:o.guard=none)(ho:o.op= .store 2 x y)(hx:a.eval x= .pointer (some ⟨g,off,none⟩))(hy:a.eval y=Iv v)
 (hb:off<cs.length) (h:∀W',qF w W' L'→wpList Tryz.prog ops Q rest (a.put o.dst undef) W')
 (hl:Lk L g cs t:=by((repeat constructor)<;>fail)) (hu:Up L g cs (jg cs off [Iv v]) t L':=by((repeat constructor)<;>fail)):wpList Tryz.prog ops Q (o::rest) a W:=
 BZ hM hg ho hx (new:=[Iv v]) (by rw[hy];exact .int) hl (by simp;omega) hu (bQ rfl) rfl (yf rfl) h
theorem Mz{X:Act→World→Prop}{x y:Operand}{cs:List Value}{t:TypeId}{v:Int}{g off:Nat}{L':List qZ}(hM:qF w W L)(hb:off<cs.length)(h:∀W',qF w W' L'→X (a.put o.dst undef) W')(ho:o.op= .store 2 x y:=by rfl)(hx:a.eval x= .pointer (some ⟨g,off,none⟩):=by rfl)(hy:a.eval y=Iv v:=by rfl)
 (hl:Lk L g cs t:=by((repeat constructor)<;>fail)) (hu:Up L g cs (jg cs off [Iv v]) t L':=by((repeat constructor)<;>fail)):o.wp Tryz.prog a W X Q:=by
 have hr:=kS (P:=Tryz.prog) (ty:=2) (off:=off) (v:=a.eval y) hM hu (by rw[yA W (bQ (ty:=2) (n:=1) rfl),hy];rfl) (by rw[hy];exact hb) (by rw[hy];intro x hx;rcases List.mem_singleton.1 (by simpa[Value.cells]using hx)with rfl;rfl) (by rw[hy];rfl);unfold Oper.wp execOp;simp only[ho,hx,Instr.storeAt,Instr.sureAddr,Sem.run_bind,Sem.run_pure,Result.andThen_ok,hr];exact h _ (Vf hM hu)
theorem dJ{cs:List Value}{l:List (Int×Int)}{k:Nat}(h:PL cs l)(hk:k<l.length):(cs.drop (k*2)).take 2=[Iv (pq l k).1,Iv (pq l k).2]:=by
 have h1:=h.at_ k hk;have hl:=h.le;apply List.ext_getElem?;intro j;rw[List.getElem?_take]
 match j with
 |0=>rw[if_pos qg,List.getElem?_drop];exact h1.1
 |1=>rw[if_pos qg,List.getElem?_drop];exact h1.2
 |j+2=>rw[if_neg qg];rfl
theorem GY{ty:TypeId}{x:Operand}{cs:List Value}{t:TypeId}{p q:Value}{g off:Nat}(hM:qF w W L)(hg:o.guard=none)(ho:o.op= .load ty x)(hx:a.eval x= .pointer (some ⟨g,off,none⟩))(hC:(cs.drop off).take 2=[p,q])(ha:∀w,(isAgg ty).run P w= .ok true w)(hz:∀w,(sizeOf ty).run P w= .ok 2 w)
 (h:wpList P ops Q rest (a.put o.dst (.agg #[p,q])) W) (hl:Lk L g cs t:=by((repeat constructor)<;>fail)):wpList P ops Q (o::rest) a W:=dg hM hg ho hx hl ha (yA W hz) hC rfl h
theorem GZ{x y:Operand}{n:Nat}(hM:qF w W L)(hg:o.guard=none)(ho:o.op= .makeSlice 32 x y)(hx:a.eval x=Iv (n:Int))(hy:a.eval y=Iv (n:Int))(hn:n≤1000000)
 (h:∀g cs W',IL cs n (fun _=>0)→qF w W' ((g,cs,2)::L)→wpList Tryz.prog ops Q rest (a.put o.dst (.slice (some ⟨g,0,none⟩) n n)) W'):wpList Tryz.prog ops Q (o::rest) a W:=by
 obtain⟨i,hi,hz⟩:=Option.map_eq_some_iff.1 Gs;simp only[Prod.mk.injEq]at hz;refine wpList_make_row W hg x y _ ho 2 i (Iv 0) Tryz.underlying32 hi hz.1 hz.2.1 rfl .i64 .i64 n hx hy (by rw[hz.2.2];omega) qg ?_;rw[Gt];exact h _ _ _ (Rg n) (kR hM _ _)
end
section
variable{l:List Oper}{Q:Exit→Act→World→Prop}{a:Act}{w W:World}{L K:List qZ}{o:Oper}{fuel:Nat}{listed:Array Bool}
theorem Lm{P:Program}(rs:List Nat)(h:AllReadyH P .any l.toArray Q (Held w K) fuel listed a W rs)(hr:Region.ready .any l.toArray listed=rs:=by kernel_rfl)(hne:rs≠[]:=by simp):wpAnyH P .any l.toArray Q (Held w K) (fuel+1) listed a W:=wpAnyH_ready hr hne h
theorem Wc{P:Program}{i:Nat}{rs:List Nat}(h:∀K':Act→World→Prop,Shut (∀a w1,Held w K w1→wpAnyH P .any l.toArray Q (Held w K) fuel (listed.setIfInBounds i true) a w1→K' a w1)→Oper.wp P o a W K' Q)(hs:AllReadyH P .any l.toArray Q (Held w K) fuel listed a W rs)
 (hn:tN l i o:=by exact ym rfl) (hgd:o.guard=none:=by rfl):AllReadyH P .any l.toArray Q (Held w K) fuel listed a W (i::rs):=
 AllReadyH.cons hn.get (fun K' hK=>by
  rw[if_pos (by simp[Region.wanted,hgd])]
  exact h K' (fun a w1 h1 h2=>hK.out a w1 h1 (fun _=>h2))) hs
end
end Go.Proofs.YtiegohjobhehcaaGreatDoor
