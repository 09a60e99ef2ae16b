/-
  Memory as a list of boxes, where a call changes a box of its caller and a slice's row that hangs at it: the list is pre, the box, the row's boxes B, the rest R.
-/
import Derived.Test.YtiegohjobhehcaaGreatDoorMMem
import Derived.Test.YtiegohjobhehcaaGreatDoorMBuildP
namespace Go.Proofs.YtiegohjobhehcaaGreatDoor
open Go.RowKit
set_option linter.unusedVariables false
theorem qW{w W:World}{L L':List qZ}(h:qF w W L)(hp:L.Perm L'):qF w W L':=
 ⟨h.below,fun g cs t hm=>h.rows g cs t (hp.mem_iff.2 hm),(hp.map (·.1)).nodup_iff.1 h.nodup⟩
inductive Sd:List qZ→List qZ→Nat→List Value→TypeId→List qZ→List qZ→Prop
 |here {g:Nat} {cs:List Value} {t:TypeId} {B R:List qZ}:Sd ((g,cs,t)::(B++R)) [] g cs t B R
 |tail {e:qZ} {L pre:List qZ} {g:Nat} {cs:List Value} {t:TypeId} {B R:List qZ}:Sd L pre g cs t B R→Sd (e::L) (e::pre) g cs t B R
theorem Sd.eq{L pre:List qZ}{g:Nat}{cs:List Value}{t:TypeId}{B R:List qZ}(h:Sd L pre g cs t B R):L=pre++(g,cs,t)::(B++R):=by
 induction h with
 |here=>rfl
 |tail _ ih=>rw[ih];rfl
theorem VN(pre:List qZ)(d:qZ)(B R:List qZ):(pre++d::(B++R)).Perm (d::(B++(pre++R))):=by
 refine List.perm_middle.trans (.cons _ ?_);rw[←List.append_assoc,←List.append_assoc];exact List.perm_append_comm.append_right R
theorem cd{P:Program}{f:FuncId}{xs:Array Value}{w0 W:World}{L pre:List qZ}{g:Nat}{cs:List Value}{t:TypeId}{B R:List qZ}{Φ:Ending→List Value→List qZ→Prop}{Q:Ending→World→Prop}
 (hM:qF w0 W L) (hs:Sd L pre g cs t B R) (hc:∀R',qF w0 W ((g,cs,t)::(B++R'))→Calls P f xs W fun e w'=>∃cs' B',Φ e cs' B'∧qF w0 w' ((g,cs',t)::(B'++R')))
 (h:∀e cs' B' W1,Φ e cs' B'→qF w0 W1 (pre++(g,cs',t)::(B'++R))→Q e W1):Calls P f xs W Q:=by
 have h1:=hs.eq;subst h1;refine(hc (pre++R) (qW hM (VN pre _ B R))).mono ?_;rintro e w' ⟨cs',B',hΦ,hM'⟩;exact h e cs' B' w' hΦ (qW hM' (VN pre _ B' R).symm)
inductive Sr:List qZ→List qZ→List qZ→List qZ→Prop
 |here {B R:List qZ}:Sr (B++R) [] B R
 |tail {e:qZ} {L pre B R:List qZ}:Sr L pre B R→Sr (e::L) (e::pre) B R
theorem Sr.eq{L pre B R:List qZ}(h:Sr L pre B R):L=pre++(B++R):=by
 induction h with
 |here=>rfl
 |tail _ ih=>rw[ih];rfl
theorem Sx.refl:∀(pre B:List qZ),Sx (pre++B) pre B
 | [],B=> .here
 |e::pre,B=> .tail (Sx.refl pre B)
theorem xx(pre B R:List qZ):(pre++(B++R)).Perm ((pre++R)++B):=by
 rw[List.append_assoc];exact List.Perm.append_left _ List.perm_append_comm
theorem wV{P:Program}{w W:World}{L pre B R:List qZ}{o:Oper}{a:Act}{K:Act→World→Prop}{Q:Exit→Act→World→Prop}{s x:Operand}{t:TypeId}(hM:qF w W L)
 (ho:o.op= .call {callee:= .builtin .append,args:= #[s,x],argTypes:= #[t,t]}) {e:TypeId} {size bytes:Nat} {v:Value} {n:Nat} {xs:List Value} (hs:a.eval s=v) {g1 c:Nat} (hx:a.eval x= .slice (some ⟨g1,0,none⟩) 1 c)
 (hO:bZ e size v n xs B) (hS:Sr L pre B R) (ht:P.underlying t=some (.slice e)) (hI:yw P e size bytes) {news:List Value} {tg:TypeId} (hl:Lk L g1 news tg) (hn:news.length=size) (h1:∀u∈news,u.oneCell'=true) (hz:0<size) (hb:(n+1)*bytes≤140737488355328) (hm:n+1≤maxLen)
 (h:∀g cap B' W',bZ e size (.slice (some ⟨g,0,none⟩) (n+1) cap) (n+1) (xs++news) B'→qF w W' (pre++(B'++R))→K (a.put o.dst (.slice (some ⟨g,0,none⟩) (n+1) cap)) W'):o.wp P a W K Q:=by
 have h0:=hS.eq;subst h0;have hm1:(g1,news,tg)∈(pre++R)++B:=(xx pre B R).mem_iff.1 hl.mem;have hM1:=qW hM (xx pre B R);obtain⟨i,hi,hz0⟩:=Option.map_eq_some_iff.1 hI;simp only[Prod.mk.injEq]at hz0;obtain⟨z1,z2,z3⟩:=hz0;obtain⟨z,hz3,hz4⟩:=Option.map_eq_some_iff.1 z1;have hr:=hM1.rows g1 news tg hm1;refine wp_append_lies W s x t ho w.heap.size e i z size bytes ht hi hz3 z2 z3 hz4 hz v n xs hs (hO.owns hM1 rfl) ⟨g1,0,none⟩ 1 c news hx qg (fun j u hj=>World.news_of_block hr.2 j u (by simpa using hj)) h1 qG hm hb hM1.below.size _ rfl (fun g cap W' h2 h3 h4 _=> ?_);obtain⟨B',hB,hM'⟩:=uI hM1 rfl hO h3 h4 h2;exact h g cap B' W' hB (qW hM' (xx pre B' R).symm)
inductive Ks:List qZ→List qZ→Prop
 |nil {L:List qZ}:Ks [] L
 |cons {g:Nat} {cs:List Value} {t:TypeId} {K L:List qZ}:Lk L g cs t→Ks K L→Ks ((g,cs,t)::K) L
theorem Ks.mem{K L:List qZ}(h:Ks K L):∀b∈K,b∈L:=by
 induction h with
 |nil=>exact fun _ h=>by cases h
 |cons h1 _ ih=>
  intro b hb;rcases List.mem_cons.1 hb with rfl|hb
  ·exact h1.mem
  ·exact ih b hb
theorem qC{w W:World}{e:qZ}{L:List qZ}(h:qF w W (e::L)):qF w W L:=
 ⟨h.below,fun g cs t hm=>h.rows g cs t (.tail _ hm),(List.nodup_cons.1 h.nodup).2⟩
section
variable{l:List Oper}{Q:Exit→Act→World→Prop}{a:Act}{w W:World}{L K:List qZ}{o:Oper}{fuel:Nat}{listed:Array Bool}
theorem qA{P:Program}{id:Nat}(K:List qZ)(hM:qF w W L)(hm:P.follows .mixedOrders=true)
 (h:∀W',qF w W' L→wpAnyH P .any l.toArray Q (Held w K) l.length (Array.replicate l.length false) a W') (hk:Ks K L:=by((repeat constructor)<;>fail)):(Code.region id l.toArray true).wp P Q a W:=
 ZY hM hm K hk.mem h
theorem FC{X:Act→World→Prop}{K':Act→World→Prop}(hK':Shut (∀a w1,Held w K w1→X a w1→K' a w1))(hM:qF w W L)(h:X a W)(hk:Ks K L:=by((repeat constructor)<;>fail)):K' a W:=
 hK'.out _ _ (jh hM hk.mem) h
theorem rK{X:Act→World→Prop}{K':Act→World→Prop}{H:Prop}(hK':Shut (∀a w1,Held w K w1→X a w1→K' a w1))(hM:qF w W L)(h:H)(hk:Ks K L:=by((repeat constructor)<;>fail))(n:X a W=H:=by conv=>lhs;try simp only[pS,pN,sA,sB,sC]):K' a W:=FC hK' hM (n.mpr h) hk
theorem dP{P:Program}(i:Nat){v:Value}(hM:qF w W L)(h:wpAnyH P .any l.toArray Q (Held w K) fuel (listed.setIfInBounds i true) (a.put o.dst v) W)(hk:Ks K L:=by((repeat constructor)<;>fail))(hn:tN l i o:=by exact ym rfl)
 (hs:Region.noSelect l.toArray=true:=by kernel_rfl) (hf:Region.free .any l.toArray listed i=true:=by kernel_rfl) (hr:(Region.ready .any l.toArray listed).contains i=true:=by kernel_rfl)
 (hgd:o.guard=none:=by rfl) (hv:∀W,(execOp a.eval o).run P W= .ok (.value v) W:=by(intro W0;go_simp<;>with_reducible rfl)) (hQ:∀c a w v,Q (.panic c) (a.put o.dst v) w→Q (.panic c) a w:=by exact fun _ _ _ _ h=>h):wpAnyH P .any l.toArray Q (Held w K) (fuel+1) listed a W:=
  kP i hM hk.mem h hn hs hf hr hgd hv hQ
theorem dL(i:Nat){v:Value}{cs:List Value}{t:TypeId}(hM:qF w W L)(h:wpAnyH Tryz.prog .any l.toArray Q (Held w K) fuel (listed.setIfInBounds i true) (a.put o.dst v) W)(hk:Ks K L:=by((repeat constructor)<;>fail))(hn:tN l i o:=by exact ym rfl)
 (hs:Region.noSelect l.toArray=true:=by kernel_rfl) (hf:Region.free .any l.toArray listed i=true:=by kernel_rfl) (hr:(Region.ready .any l.toArray listed).contains i=true:=by kernel_rfl) (hgd:o.guard=none:=by rfl) {ty:TypeId} {x:Operand} (ho:o.op= .load ty x:=by rfl) {g off:Nat} (hx:a.eval x= .pointer (some ⟨g,off,none⟩):=by rfl)
 (hl:Lk K g cs t:=by((repeat constructor)<;>fail)) (hg:Jw.contains ty=true:=by rfl) (hv:cs[off]? =some v:=by rfl) (hQ:∀c a w v,Q (.panic c) (a.put o.dst v) w→Q (.panic c) a w:=by exact fun _ _ _ _ h=>h):wpAnyH Tryz.prog .any l.toArray Q (Held w K) (fuel+1) listed a W:=
  kL i hM hk.mem h hn hs hf hr hgd ho hx hl hg hv hQ
theorem dM(i:Nat){cs:List Value}{t:TypeId}{n:Nat}{C:List Value}(hM:qF w W L)(h:wpAnyH Tryz.prog .any l.toArray Q (Held w K) fuel (listed.setIfInBounds i true) (a.put o.dst (.agg C.toArray)) W)(hk:Ks K L:=by((repeat constructor)<;>fail))(hn:tN l i o:=by exact ym rfl)
 (hs:Region.noSelect l.toArray=true:=by kernel_rfl) (hf:Region.free .any l.toArray listed i=true:=by kernel_rfl) (hr:(Region.ready .any l.toArray listed).contains i=true:=by kernel_rfl) (hgd:o.guard=none:=by rfl) {ty:TypeId} {x:Operand} (ho:o.op= .load ty x:=by rfl) {g off:Nat} (hx:a.eval x= .pointer (some ⟨g,off,none⟩):=by rfl)
 (hl:Lk K g cs t:=by((repeat constructor)<;>fail)) (hg:xu.contains ty=true:=by rfl) (hz:List.lookup ty (ZA++TY)=some n:=by rfl) (hC:Part cs off n C:=by((repeat constructor)<;>fail)) (hQ:∀c a w v,Q (.panic c) (a.put o.dst v) w→Q (.panic c) a w:=by exact fun _ _ _ _ h=>h):wpAnyH Tryz.prog .any l.toArray Q (Held w K) (fuel+1) listed a W:=
  kM i hM hk.mem h hn hs hf hr hgd ho hx hl hg hz hC hQ
theorem vP{P:Program}(i:Nat){v:Value}(hM:qF w W L)(hk:Ks K L:=by((repeat constructor)<;>fail))(hn:tN l i o:=by exact ym rfl)
 (hs:Region.noSelect l.toArray=true:=by kernel_rfl) (hf:Region.free .any l.toArray listed i=true:=by kernel_rfl) (hr:(Region.ready .any l.toArray listed).contains i=true:=by kernel_rfl)
 (hgd:o.guard=none:=by rfl) (hv:∀W,(execOp a.eval o).run P W= .ok (.value v) W:=by(intro W0;go_simp<;>with_reducible rfl)) (hQ:∀c a w v,Q (.panic c) (a.put o.dst v) w→Q (.panic c) a w:=by exact fun _ _ _ _ h=>h):UZ i (wpAnyH P .any l.toArray Q (Held w K) fuel (listed.setIfInBounds i true) (a.put o.dst v) W) (wpAnyH P .any l.toArray Q (Held w K) (fuel+1) listed a W):=fun h=>dP i hM h hk hn hs hf hr hgd hv hQ
theorem vL(i:Nat){v:Value}{cs:List Value}{t:TypeId}(hM:qF w W L)(hk:Ks K L:=by((repeat constructor)<;>fail))(hn:tN l i o:=by exact ym rfl){ty:TypeId}{x:Operand}(ho:o.op= .load ty x:=by rfl)
 (hg:Jw.contains ty=true:=by rfl) (hs:Region.noSelect l.toArray=true:=by kernel_rfl) (hf:Region.free .any l.toArray listed i=true:=by kernel_rfl) (hr:(Region.ready .any l.toArray listed).contains i=true:=by kernel_rfl) (hgd:o.guard=none:=by rfl)
 {g off:Nat} (hx:a.eval x= .pointer (some ⟨g,off,none⟩):=by rfl) (hl:Lk K g cs t:=by((repeat constructor)<;>fail)) (hv:cs[off]? =some v:=by rfl) (hQ:∀c a w v,Q (.panic c) (a.put o.dst v) w→Q (.panic c) a w:=by exact fun _ _ _ _ h=>h):UZ i (wpAnyH Tryz.prog .any l.toArray Q (Held w K) fuel (listed.setIfInBounds i true) (a.put o.dst v) W) (wpAnyH Tryz.prog .any l.toArray Q (Held w K) (fuel+1) listed a W):=fun h=>dL i hM h hk hn hs hf hr hgd ho hx hl hg hv hQ
theorem vM(i:Nat){cs:List Value}{t:TypeId}{n:Nat}{C:List Value}(hM:qF w W L)(hk:Ks K L:=by((repeat constructor)<;>fail))(hn:tN l i o:=by exact ym rfl){ty:TypeId}{x:Operand}(ho:o.op= .load ty x:=by rfl)
 (hg:xu.contains ty=true:=by rfl) (hs:Region.noSelect l.toArray=true:=by kernel_rfl) (hf:Region.free .any l.toArray listed i=true:=by kernel_rfl) (hr:(Region.ready .any l.toArray listed).contains i=true:=by kernel_rfl) (hgd:o.guard=none:=by rfl)
 {g off:Nat} (hx:a.eval x= .pointer (some ⟨g,off,none⟩):=by rfl) (hl:Lk K g cs t:=by((repeat constructor)<;>fail)) (hz:List.lookup ty (ZA++TY)=some n:=by rfl) (hC:Part cs off n C:=by((repeat constructor)<;>fail)) (hQ:∀c a w v,Q (.panic c) (a.put o.dst v) w→Q (.panic c) a w:=by exact fun _ _ _ _ h=>h):UZ i (wpAnyH Tryz.prog .any l.toArray Q (Held w K) fuel (listed.setIfInBounds i true) (a.put o.dst (.agg C.toArray)) W) (wpAnyH Tryz.prog .any l.toArray Q (Held w K) (fuel+1) listed a W):=fun h=>dM i hM h hk hn hs hf hr hgd ho hx hl hg hz hC hQ
theorem rD(i:Nat){G' G H:Prop}(k:H)(s:UZ i G' G:=by first|exact vL _ hM|exact vM _ hM|exact vP _ hM|fail)(n:G'=H:=by conv=>lhs;try simp only[pS,pN,sA,sB,sC]):G:=s (n.mpr k)
theorem dC{P:Program}(i:Nat)(h:∀K':Act→World→Prop,Shut (∀a w1,Held w K w1→wpAnyH P .any l.toArray Q (Held w K) fuel (listed.setIfInBounds i true) a w1→K' a w1)→Oper.wp P o a W K' Q)
 (hn:tN l i o:=by exact ym rfl) (hr:Region.ready .any l.toArray listed=[i]:=by kernel_rfl) (hgd:o.guard=none:=by rfl):wpAnyH P .any l.toArray Q (Held w K) (fuel+1) listed a W:=kT hn hr hgd h
theorem dT{P:Program}{oj:Oper}(i j:Nat)(h:∀K':Act→World→Prop,Shut (∀a w1,Held w K w1→wpAnyH P .any l.toArray Q (Held w K) fuel (listed.setIfInBounds i true) a w1→K' a w1)→Oper.wp P o a W K' Q)
 (hj:∀K':Act→World→Prop,Shut (∀a w1,Held w K w1→wpAnyH P .any l.toArray Q (Held w K) fuel (listed.setIfInBounds j true) a w1→K' a w1)→Oper.wp P oj a W K' Q)
 (hn:tN l i o:=by exact ym rfl) (hnj:tN l j oj:=by exact ym rfl) (hr:Region.ready .any l.toArray listed=[i,j]:=by kernel_rfl) (hgd:o.guard=none:=by rfl) (hgj:oj.guard=none:=by rfl):wpAnyH P .any l.toArray Q (Held w K) (fuel+1) listed a W:=UY hn hnj hr hgd hgj h hj
end
section
variable{Q:Exit→Act→World→Prop}{a:Act}{w W:World}{L:List qZ}{o:Oper}{X:Act→World→Prop}
theorem oL{v:Value}{cs:List Value}{t:TypeId}{ty:TypeId}{x:Operand}(hM:qF w W L)(h:X (a.put o.dst v) W)(ho:o.op= .load ty x:=by rfl){g off:Nat}(hx:a.eval x= .pointer (some ⟨g,off,none⟩):=by rfl)
 (hl:Lk L g cs t:=by((repeat constructor)<;>fail)) (hg:Jw.contains ty=true:=by rfl) (hv:cs[off]? =some v:=by rfl):o.wp Tryz.prog a W X Q:=Jv hM ho hx hl (ur hg) hv h
theorem oM{cs:List Value}{t:TypeId}{n:Nat}{C:List Value}{ty:TypeId}{x:Operand}(hM:qF w W L)(h:X (a.put o.dst (.agg C.toArray)) W)(ho:o.op= .load ty x:=by rfl){g off:Nat}(hx:a.eval x= .pointer (some ⟨g,off,none⟩):=by rfl)
 (hl:Lk L g cs t:=by((repeat constructor)<;>fail)) (hg:xu.contains ty=true:=by rfl) (hz:List.lookup ty (ZA++TY)=some n:=by rfl) (hC:Part cs off n C:=by((repeat constructor)<;>fail)):o.wp Tryz.prog a W X Q:=Vg hM ho hx hl (Zg hg) (bQ hz) hC h
theorem oN{z:Value}{cs:List Value}{ty:TypeId}(hM:qF w W L)(h:∀g W',qF w W' ((g,cs,ty)::L)→X (a.put o.dst (.pointer (some ⟨g,0,none⟩))) W')(ho:o.op= .alloc ty:=by rfl)(hz:List.lookup ty fQ=some z:=by rfl)(hc:z.cells=cs.toArray:=by rfl):o.wp Tryz.prog a W X Q:=
 vS hM ho (Sv hz) hc h
theorem Lh{new:List Value}{cs:List Value}{cs':List Value}{t:TypeId}{L':List qZ}{n:Nat}{ty:TypeId}{x y:Operand}(hM:qF w W L)(hi:∀w,(sizeOf ty).run Tryz.prog w= .ok n w)(h:∀W',qF w W' L'→X (a.put o.dst undef) W')(ho:o.op= .store ty x y:=by rfl){g off:Nat}(hx:a.eval x= .pointer (some ⟨g,off,none⟩):=by rfl)
 (hy:Ev (a.eval y) new:=by(constructor<;>fail)) (hk:Lk L g cs t:=by((repeat constructor)<;>fail)) (hc:UX cs off new cs':=by((repeat constructor)<;>fail)) (hu:Up L g cs cs' t L':=by((repeat constructor)<;>fail))
 (hn:new.length=n:=by rfl) (h1:new.all (·.oneCell')=true:=by rfl):o.wp Tryz.prog a W X Q:=by
 have hr:=kS (P:=Tryz.prog) (ty:=ty) (off:=off) (v:=a.eval y) hM hu (by rw[yA W hi,hy.eq,←hn];simp) (by rw[hy.eq];simpa using hc.eq.2) (by rw[hy.eq];simpa using yf h1) (by rw[hy.eq];simpa using hc.eq.1);unfold Oper.wp execOp;simp only[ho,hx,Instr.storeAt,Instr.sureAddr,Sem.run_bind,Sem.run_pure,Result.andThen_ok,hr];exact h _ (Vf hM hu)
theorem oS{new:List Value}{cs:List Value}{cs':List Value}{t:TypeId}{L':List qZ}{n:Nat}{ty:TypeId}{x y:Operand}(hM:qF w W L)(h:∀W',qF w W' L'→X (a.put o.dst undef) W')(ho:o.op= .store ty x y:=by rfl){g off:Nat}(hx:a.eval x= .pointer (some ⟨g,off,none⟩):=by rfl)
 (hy:Ev (a.eval y) new:=by(constructor<;>fail)) (hk:Lk L g cs t:=by((repeat constructor)<;>fail)) (hc:UX cs off new cs':=by((repeat constructor)<;>fail)) (hu:Up L g cs cs' t L':=by((repeat constructor)<;>fail))
 (hi:List.lookup ty (ZA++TY)=some n:=by rfl) (hn:new.length=n:=by rfl) (h1:new.all (·.oneCell')=true:=by rfl):o.wp Tryz.prog a W X Q:=
 Lh hM (bQ hi) h ho hx hy hk hc hu hn h1
end
def El.cells(x:El):List Value:=[.bool x.c,Iv x.ax,Iv x.ay,Iv x.bx,Iv x.b_y,Iv x.cx,Iv x.cy,Iv x.r,Iv x.f,Iv x.s,Iv x.L,Iv x.n,.bool x.g]
theorem Jy:yw Tryz.prog 53 13 104:=by unfold yw;kernel_rfl
def tO(V:Value)(l:List El)(B:List qZ)(m:Nat):Prop:=bZ 53 13 V l.length (l.flatMap El.cells) B∧l.length≤m
abbrev bq(V:Value)(d:Dw)(rad:Int):List Value:=[V,Iv d.px,Iv d.py,.bool d.gp,Iv rad]
section
variable{Q:Exit→Act→World→Prop}{a:Act}{w W:World}{L pre B R:List qZ}{o:Oper}{X:Act→World→Prop}
theorem LH{x:Operand}{news:List Value}(hM:qF w W L)(h:∀g W',qF w W' ((g,news,53)::L)→X (a.put o.dst (.slice (some ⟨g,0,none⟩) 1 1)) W')(ho:o.op= .buildSlice 44 1 #[(0,x)]:=by rfl)(hv:Ev (a.eval x) news:=by(constructor<;>fail))(hn:news.length=13:=by rfl):o.wp Tryz.prog a W X Q:=
 Ua hM ho hv Tryz.underlying44 Jy hn qG qG h
theorem LI{s x:Operand}{V:Value}{els:List El}{m:Nat}{e:El}(hM:qF w W L)(hO:Hid (tO V els B m))(hm:m≤100000)(h:∀g cap B' W',Hid (tO (.slice (some ⟨g,0,none⟩) (els.length+1) cap) (els++[e]) B' (m+1))→qF w W' (pre++(B'++R))→X (a.put o.dst (.slice (some ⟨g,0,none⟩) (els.length+1) cap)) W')
 (ho:o.op= .call {callee:= .builtin .append,args:= #[s,x],argTypes:= #[44,44]}:=by rfl) (hs:a.eval s=V:=by rfl) {g1 c:Nat} (hx:a.eval x= .slice (some ⟨g1,0,none⟩) 1 c:=by rfl)
 (hS:Sr L pre B R:=by((repeat constructor)<;>fail)) {news:List Value} {tg:TypeId} (hl:Lk L g1 news tg:=by((repeat constructor)<;>fail)) (he:news=e.cells:=by rfl):o.wp Tryz.prog a W X Q:=by
 subst he;have h2:=hO.out.2;refine wV hM ho hs hx hO.out.1 hS Tryz.underlying44 Jy hl rfl (by simp[El.cells,Value.oneCell']) qG qg (by unfold maxLen;omega) (fun g cap B' W' h3 h4=>h g cap B' W' (hide ⟨?_,?_⟩) h4)
 ·rw[List.length_append,List.length_singleton,List.flatMap_append];simpa using h3
 ·rw[List.length_append,List.length_singleton];omega
end
theorem cD{f:FuncId}{xs:Array Value}{w0 W:World}{L pre:List qZ}{gd:Nat}{rad:Int}{V v:Value}{d d':Dw}{B R:List qZ}{m:Nat}{Q:Ending→World→Prop}(hM:qF w0 W L)
 (hc:∀R',qF w0 W ((gd,bq V d rad,88)::(B++R'))→Calls Tryz.prog f xs W fun e w'=>e= .returned v∧∃V' B',tO V' d'.els B' m∧qF w0 w' ((gd,bq V' d' rad,88)::(B'++R')))
 (h:∀d1 V' B' W1,Hid (d'=d1)→Hid (tO V' d1.els B' m)→qF w0 W1 (pre++(gd,bq V' d1 rad,88)::(B'++R))→Q (.returned v) W1) (hs:Sd L pre gd (bq V d rad) 88 B R:=by((repeat constructor)<;>fail)):Calls Tryz.prog f xs W Q:=
 cd (Φ:=fun e cs' B'=>e= .returned v∧∃V',tO V' d'.els B' m∧cs'=bq V' d' rad) hM hs
  (fun R' h1=>(hc R' h1).mono fun e w' ⟨h2,V',B',h3,h4⟩=>⟨_,B',⟨h2,V',h3,rfl⟩,h4⟩)
  (fun e cs' B' W1 ⟨h2,V',h3,h4⟩ hM'=>by
    subst h2 h4
    exact h d' V' B' W1 (hide rfl) (hide h3) hM')
theorem Ba(e:El):e.cells.length=13:=rfl
theorem Zi(l:List El):(l.flatMap El.cells).length=l.length*13:=by
 induction l with
 |nil=>rfl
 |cons t ts ih=>rw[List.flatMap_cons,List.length_append,ih,Ba,List.length_cons];omega
theorem VO:∀(l:List El) (k:Nat) (x:El),l[k]? =some x→((l.flatMap El.cells).drop (k*13)).take 13=x.cells
 | [],k,x,h=>by simp at h
 |y::l,0,x,h=>by
  simp at h;subst h;rw[List.flatMap_cons,Nat.zero_mul,List.drop_zero,List.take_append_of_le_length (by rw[Ba];omega)];rfl
 |y::l,k+1,x,h=>by
  rw[List.flatMap_cons,show(k+1)*13=y.cells.length+k*13 by rw[Ba];omega,List.drop_append,List.drop_eq_nil_of_le qg,List.nil_append,show y.cells.length+k*13-y.cells.length=k*13 by omega];exact VO l k x (by simpa using h)
theorem VP{l:List El}{cur:List Value}{n k:Nat}{x:El}(hc:cur.take (n*13)=l.flatMap El.cells)(hn:l.length=n)(hx:l[k]? =some x):(cur.drop (k*13)).take 13=x.cells:=by
 have hk:=(List.getElem?_eq_some_iff.1 hx).1;have h1:=VO l k x hx;rw[←hc,List.drop_take,List.take_take,Nat.min_eq_left qg]at h1;exact h1
theorem tO.row{g n cap m:Nat}{o:Option Nat}{l:List El}{B:List qZ}(h:tO (.slice (some ⟨g,0,none⟩) n cap) l B m):∃cur,B=[(g,cur,53)]∧cur.take (n*13)=l.flatMap El.cells∧l.length=n:=by
 obtain⟨h,_⟩:=h
 cases h with
 |row h1 h2 h3 h4 h5=>exact⟨_,rfl,h4,rfl⟩
theorem tO.nil{l:List El}{B:List qZ}{m:Nat}(h:tO (.slice none 0 0) l B m):l=[]∧B=[]:=by
 obtain⟨h,_⟩:=h
 cases hl:l with
 |nil=>
  rw[hl]at h;cases h;exact⟨rfl,rfl⟩
 |cons x r=>
  rw[hl]at h;have:=h.len;cases h
theorem jN(m:Nat):tO (.slice none 0 0) [] [] m:=⟨.nil,Nat.zero_le _⟩
theorem Vh{g n:Nat}(l:List El)(m:Nat)(hn:l.length=n)(hm:n≤m)(hs:n≤1000):tO (.slice (some ⟨g,0,none⟩) n n) l [(g,l.flatMap El.cells,53)] m:=by
 subst hn;exact⟨.row (Nat.le_refl _) (by unfold maxLen;omega) (Zi l) (by rw[List.take_of_length_le (by rw[Zi];exact Nat.le_refl _)]) (Zi l),hm⟩
section
variable{Q:Exit→Act→World→Prop}{a:Act}{w W:World}{L pre B R:List qZ}{o:Oper}{X:Act→World→Prop}{ops:Array Oper}{rest:List Oper}
theorem EM{parts:Array (Nat×Operand)}{n:Nat}(es:List El)(hM:qF w W L)(h:∀g W',qF w W' ((g,es.flatMap El.cells,53)::L)→X (a.put o.dst (.slice (some ⟨g,0,none⟩) n n)) W')(ho:o.op= .buildSlice 44 n parts:=by rfl)
 (hp:(parts.toList.map fun p=>(p.1,a.eval p.2))=((es.map fun e=>Value.agg e.cells.toArray).zipIdx 0).map fun x=>(x.2,x.1):=by rfl) (hn:es.length=n:=by rfl) (h0:0<n:=by decide) (hs:n≤100:=by decide):o.wp Tryz.prog a W X Q:=by
 obtain⟨i,hi,hz0⟩:=Option.map_eq_some_iff.1 Jy;simp only[Prod.mk.injEq]at hz0;obtain⟨z1,z2,z3⟩:=hz0;obtain⟨z,hz3,hz4⟩:=Option.map_eq_some_iff.1 z1;refine wp_buildSlice _ 53 n parts ho (es.flatMap El.cells).toArray i z Tryz.underlying44 hi hz3 (by rw[z2];omega) (by rw[z2];omega) ?_ (h _ _ (kR hM _ _))
 have hf:=Great.fill_whole (s:=13) qG (es.map fun e=>Value.agg e.cells.toArray) ((Array.range (n*13)).map (z.cells[· %z.cells.size]!)) (fun v hv=>by
  obtain⟨e,_,rfl⟩:=List.mem_map.1 hv
  rfl) (by simp[hn])
 have hq:(parts.map fun(i,x)=>(i,a.eval x)).toList=parts.toList.map fun p=>(p.1,a.eval p.2):=by rw[Array.toList_map]
 rw[hq,hp,z2,hf,List.flatMap_map];rfl
theorem LJ{s x:Operand}{V:Value}{els:List El}{m k c:Nat}(es:List El)(hM:qF w W L)(hO:Hid (tO V els B m))(hm:m≤100000)(hk:es.length=k)(h0:0<k)(hkm:k≤1000)(h:∀g cap B' W',Hid (tO (.slice (some ⟨g,0,none⟩) (els.length+k) cap) (els++es) B' (m+k))→qF w W' (pre++(B'++R))→X (a.put o.dst (.slice (some ⟨g,0,none⟩) (els.length+k) cap)) W')
 (ho:o.op= .call {callee:= .builtin .append,args:= #[s,x],argTypes:= #[44,44]}:=by rfl) (hs:a.eval s=V:=by rfl) {g1:Nat} (hx:a.eval x= .slice (some ⟨g1,0,none⟩) k c:=by rfl)
 (hS:Sr L pre B R:=by((repeat constructor)<;>fail)) {tg:TypeId} (hl:Lk L g1 (es.flatMap El.cells) tg:=by((repeat constructor)<;>fail)):o.wp Tryz.prog a W X Q:=by
 have h2:=hO.out.2;have h0':=hS.eq;subst h0';have hm1:=(xx pre B R).mem_iff.1 hl.mem;have hM1:=qW hM (xx pre B R);obtain⟨i,hi,hz0⟩:=Option.map_eq_some_iff.1 Jy;simp only[Prod.mk.injEq]at hz0;obtain⟨z1,z2,z3⟩:=hz0;obtain⟨z,hz3,hz4⟩:=Option.map_eq_some_iff.1 z1;have hr:=hM1.rows g1 _ tg hm1;refine wp_append_lies W s x _ ho w.heap.size 53 i z 13 104 Tryz.underlying44 hi hz3 z2 z3 hz4 qG V els.length _ hs (hO.out.1.owns hM1 rfl) ⟨g1,0,none⟩ k c _ hx (by rw[Zi,hk]) (fun j u hj=>World.news_of_block hr.2 j u (by simpa using hj)) (fun u hu=> ?_) h0 (by unfold maxLen;omega) qg hM1.below.size _ rfl (fun g cap W' h2' h3 h4 _=> ?_)
 ·obtain⟨e,_,he⟩:=List.mem_flatMap.1 hu;simp only[El.cells,List.mem_cons,List.not_mem_nil,or_false]at he;rcases he with rfl|rfl|rfl|rfl|rfl|rfl|rfl|rfl|rfl|rfl|rfl|rfl|rfl<;>rfl
 ·obtain⟨B',hB,hM'⟩:=uI hM1 rfl hO.out.1 h3 h4 h2';refine h g cap B' W' (hide ⟨?_,?_⟩) (qW hM' (xx pre B' R).symm)
  ·rw[List.length_append,hk,List.flatMap_append];exact hB
  ·rw[List.length_append,hk];omega
theorem FE{cur:List Value}{t:TypeId}{g k:Nat}{e:El}{x:Operand}(hM:qF w W L)(hgd:o.guard=none)(ho:o.op= .load 53 x)(hx:a.eval x= .pointer (some ⟨g,k*13,none⟩))(hl:Lk L g cur t)(hC:(cur.drop (k*13)).take 13=e.cells)(h:wpList Tryz.prog ops Q rest (a.put o.dst (.agg e.cells.toArray)) W):wpList Tryz.prog ops Q (o::rest) a W:=
 dg hM hgd ho hx hl (Zg rfl) (yA W (bQ rfl)) hC rfl h
end
end Go.Proofs.YtiegohjobhehcaaGreatDoor
