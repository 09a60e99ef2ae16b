/-
  A setup of a prediction in memory.
-/
import Derived.Test.YtiegohjobhehcaaGreatDoorMGridA
import Derived.Deep.Slices
namespace Go.Proofs.YtiegohjobhehcaaGreatDoor
open Go.RowKit
set_option linter.unusedVariables false
set_option linter.unusedSimpArgs false
structure Nd where
 x:Int
 y:Int
 d:Int
 al:Int
 ah:Int
 sl:Int
 sh:Int
abbrev Nd.cells(n:Nd):List Value:=[Iv n.x,Iv n.y,Iv n.d,Iv n.al,Iv n.ah,Iv n.sl,Iv n.sh]
def Nd.ok(n:Nd):Prop:=qz n.x∧qz n.y∧qz n.d∧qz n.al∧qz n.ah∧qz n.sl∧qz n.sh
def Jc(w:World)(S:Option Addr)(n:Nat)(f:Nat→Nd):Prop:=∀k,k<n→∃b o,S=some ⟨b,o,none⟩∧(∀(j:Nat) (v:Value),(f k).cells[j]? =some v→w.cell? ⟨b,o+k*7+j,none⟩=some v)∧(f k).ok
theorem pK{w W:World}{L:List qZ}(hM:qF w W L){S:Option Addr}{n:Nat}{f:Nat→Nd}(h:Jc w S n f):Jc W S n f:=fun k hk=>by
 obtain⟨b,o,e,h1,h2⟩:=h k hk;exact⟨b,o,e,fun j v hj=>hM.old (h1 j v hj),h2⟩
theorem rR{w:World}{b o n:Nat}{f:Nat→Nd}(h:Jc w (some ⟨b,o,none⟩) n f){k:Nat}(hk:k<n):(∀(j:Nat) (v:Value),(f k).cells[j]? =some v→w.cell? ⟨b,o+k*7+j,none⟩=some v)∧(f k).ok:=by
 obtain⟨b2,o2,e,h1,h2⟩:=h k hk;injection e with e;injection e with e1 e2;subst e1 e2;exact⟨h1,h2⟩
structure Su where
 S:Option Addr
 n:Nat
 c:Nat
 pf:Pf
 gd:Gd
 f0:Int
 f1:Int
 f2:Int
 f3:Int
 lev:Int
 cas:Int
 mac:Int
 acc:Int
 dec:Int
 lal:Int
 lsp:Int
abbrev Su.cells(s:Su):List Value:=[.slice s.S s.n s.c,.string s.pf.nm,Iv s.pf.em,Iv s.pf.mf,.slice s.pf.al.S s.pf.al.n s.pf.al.c,.slice s.pf.ms.S s.pf.ms.n s.pf.ms.c,.slice s.pf.cl.S s.pf.cl.n s.pf.cl.c,.slice s.pf.cf.S s.pf.cf.n s.pf.cf.c,.slice s.pf.cr.S s.pf.cr.n s.pf.cr.c,.slice s.pf.de.S s.pf.de.n s.pf.de.c,.slice s.pf.id.S s.pf.id.n s.pf.id.c,.slice s.pf.xs.S s.pf.xs.n s.pf.xs.c,.slice s.pf.ns.S s.pf.ns.n s.pf.ns.c,Iv s.pf.rf,Iv s.pf.ex,Iv s.pf.ce,Iv s.gd.cx,Iv s.gd.cy,Iv s.gd.ce,Iv s.gd.nx,Iv s.gd.ny,.slice s.gd.al.S s.gd.al.n s.gd.al.c,.slice s.gd.wi.S s.gd.wi.n s.gd.wi.c,.slice s.gd.dv.S s.gd.dv.n s.gd.dv.c,Iv s.gd.er,Iv s.f0,Iv s.f1,Iv s.f2,Iv s.f3,Iv s.lev,Iv s.cas,Iv s.mac,Iv s.acc,Iv s.dec,Iv s.lal,Iv s.lsp]
structure xF(w:World)(s:Su)(f:Nat→Nd):Prop where
 nd:Jc w s.S s.n f
 n63:s.n≤maxLen
 pf:Qx w s.pf
 gd:Zz w s.gd
 f0:qz s.f0
 f1:qz s.f1
 f2:qz s.f2
 f3:qz s.f3
 lev:qz s.lev
 cas:qz s.cas
 mac:qz s.mac
 acc:qz s.acc
 dec:qz s.dec
 lal:qz s.lal
 lsp:qz s.lsp
theorem jO{w W:World}{L:List qZ}(hM:qF w W L){s:Su}{f:Nat→Nd}(h:xF w s f):xF W s f:=
 ⟨pK hM h.nd,h.n63,jR hM h.pf,zZ hM h.gd,h.f0,h.f1,h.f2,h.f3,h.lev,h.cas,h.mac,h.acc,h.dec,h.lal,h.lsp⟩
def pL(n:Nd)(k:Nat):Prop:=((-2000000≤n.x∧n.x≤2000000)∧ -2000000≤n.y∧n.y≤2000000)∧(0≤n.d∧n.d≤8000000)∧(k=0→n.d=0)∧((-200000≤n.al∧n.al≤n.ah)∧n.ah≤6000000)∧0≤n.sl∧n.sl≤n.sh∧n.sh≤1000
structure KJ(s:Su)(f:Nat→Nd):Prop where
 n:2≤s.n∧s.n≤64
 nd:∀k,k<s.n→pL (f k) k
 gd:UU s.gd
 lev: -200000≤s.lev∧s.lev≤6000000
 cas:1≤s.cas∧s.cas≤1000
 mac:1≤s.mac∧s.mac≤2000
 acc:0≤s.acc∧s.acc≤1000
 dec:0≤s.dec∧s.dec≤1000
set_option maxRecDepth 100000
set_option maxHeartbeats 16000000
open Go.ChangeShapes Go.WideShapes Go.ChangeAt Go.RowKit Go.Deep
theorem sP{α:Type} [Inhabited α]{n:Nat}{p:Nat→α→Prop}(h:∀i,i<n→∃x,p i x):∃f:Nat→α,∀i,i<n→p i (f i):=by
 refine⟨fun i=>if hi:i<n then Classical.choose (h i hi)else default,fun i hi=> ?_⟩;simp only[dif_pos hi];exact Classical.choose_spec (h i hi)
theorem WK(a:Addr)(i j:Nat):(a.add i).add j=a.add (i+j):=by
 unfold Addr.add;rcases a with⟨b,o,s⟩;split<;>split<;>(try split)<;>simp_all<;>omega
theorem jC:Tryz.prog.cellsOf 9=1:=qM
theorem js:Tryz.prog.cellsOf 2=1:=qM
theorem jD:Tryz.prog.cellsOf 3=1:=qM
theorem jE:Tryz.prog.cellsOf 26=2:=qM
theorem jF:Tryz.prog.cellsOf 55=2:=qM
theorem jt:Tryz.prog.cellsOf 145=2:=qM
theorem jw:Tryz.prog.cellsOf 57=7:=qM
theorem jz:Tryz.prog.cellsOf 32=1:=qM
theorem jG:Tryz.prog.cellsOf 33=1:=qM
theorem jH:Tryz.prog.cellsOf 36=1:=qM
theorem zG:Tryz.prog.cellsOf 31=1:=qM
theorem zH:Tryz.prog.cellsOf 35=15:=qM
theorem zI:Tryz.prog.cellsOf 38=9:=qM
theorem zJ:Tryz.prog.cellsOf 40=4:=qM
theorem zK:Tryz.prog.cellsOf 42=36:=qM
section
variable{H:Type}{enc:TypeId×Value→H}{W:World}{held:Bool}
section
variable{base:Nat}{sp:Nat→Bool}{m:Nat}
theorem vz{t:TypeId}(ht:Tryz.prog.underlying t=some (.int .i64)){c:Value}{y:DataW H×List MemPlace}(h:DataW.trod enc Tryz.prog W base sp held m t [c]=some y):∃n:Int,c=Iv n∧qz n:=by
 obtain⟨n,hn,_,hw⟩:=DataW.trod_int ht h;injection hn with hn;refine⟨n,hn,?_⟩;simp[Lit.wf,IntKind.has,IntKind.min,IntKind.max,IntKind.signed,IntKind.bits]at hw;unfold qz;omega
theorem Ew{t:TypeId}(ht:Tryz.prog.underlying t=some .string){c:Value}{y:DataW H×List MemPlace}(h:DataW.trod enc Tryz.prog W base sp held m t [c]=some y):∃n:ByteArray,c= .string n∧n.size≤maxLen:=by
 obtain⟨n,hn,_,hw⟩:=DataW.trod_string ht h;injection hn with hn;exact⟨n,hn,hw⟩
end
theorem JZ{α:Type} [Inhabited α]{t e:TypeId}{s:Nat}(cells:α→List Value)(K:α→Prop)(ht:Tryz.prog.underlying t=some (.slice e))(hs:Tryz.prog.cellsOf e=s)(hs0:0<s)(hc1:∀x,(cells x).length=s)
 (hread:∀(n:Nat) (cs:List Value) (y:DataW H×List MemPlace),DataW.trod enc Tryz.prog W 0 (fun _=>true) held n e cs=some y→cs.length=s→∃x,cs=cells x∧K x)
 {m:Nat} {c:Value} {y:DataW H×List MemPlace} (h:DataW.trod enc Tryz.prog W 0 (fun _=>true) held m t [c]=some y):
 ∃(S:Option Addr) (n cap:Nat) (f:Nat→α),c= .slice S n cap∧n≤maxLen∧∀k,k<n→∃b o,S=some ⟨b,o,none⟩∧(∀(j:Nat) (v:Value),(cells (f k))[j]? =some v→W.cell? ⟨b,o+k*s+j,none⟩=some v)∧K (f k):=by
 rcases open_slice ht h with⟨hc2,_⟩|⟨a,ln,cap,mm,k,D,Pl,hc2,_,hlc,hcm,hmm,_,hall⟩
 ·injection hc2 with hc2;exact⟨none,0,0,fun _=>default,hc2,Nat.zero_le _,fun k hk=>by omega⟩
 ·injection hc2 with hc2;subst hc2;have hm:mm=cap:=by simpa using hmm
  subst hm
  have hall':∀i,i<ln→∃cs',W.cells? 0 (a.add (i*s)) s=some cs'∧DataW.trod enc Tryz.prog W 0 (fun _=>true) held k e cs'=some (D i,Pl i):=by
   intro i hi;have:=hall i qg;rw[hs]at this;exact this
  clear hall
  have flat:∀i,i<ln→a.3=none:=by
   intro i hi;obtain⟨cs0,q1,q2⟩:=hall' 0 qg;obtain⟨_,ql,qc⟩:=World.cells?_some q1;have q0:=qc 0 hs0;rw[List.getElem?_eq_getElem (show 0<cs0.length by omega)]at q0;have hsp:=World.cell?_spot q0;obtain⟨b,o,spot⟩:=a;simpa[Addr.add]using hsp
  have each:∀i,i<ln→∃x:α,∃b o,a=⟨b,o,none⟩∧(∀(j:Nat) (v:Value),(cells x)[j]? =some v→W.cell? ⟨b,o+i*s+j,none⟩=some v)∧K x:=by
   intro i hi;obtain⟨cs',h1,h2⟩:=hall' i hi;obtain⟨_,hlen,hcell⟩:=World.cells?_some h1;obtain⟨x,rfl,hx⟩:=hread _ _ _ h2 hlen;have hsp:=flat i hi;obtain⟨b,o,spot⟩:=a;dsimp only at hsp;subst hsp;refine⟨x,b,o,rfl,fun j v hj=> ?_,hx⟩
   have hjs:j<s:=by
    have:=(List.getElem?_eq_some_iff.1 hj).1
    rwa[hc1]at this
   have h3:=hcell j hjs;have ad:((⟨b,o,none⟩:Addr).add (i*s)).add j=⟨b,o+i*s+j,none⟩:=by rw[WK,Addr.add_lit,Nat.add_assoc]
   rw[ad]at h3;rw[h3];obtain⟨hj2,rfl⟩:=List.getElem?_eq_some_iff.1 hj;simp
  obtain⟨f,hf'⟩:=sP each;refine⟨some a,ln,mm,f,rfl,Nat.le_trans hlc hcm,fun k hk=> ?_⟩;obtain⟨b,o,e,h1,h2⟩:=hf' k hk;exact⟨b,o,by rw[e],h1,h2⟩
theorem dX{a b c d:Value}(h:[a,b]=[c,d]):a=c∧b=d:=by
 simp only[List.cons.injEq,and_true]at h;exact h
theorem WL{m:Nat}{c0 c1:Value}{y:DataW H×List MemPlace}(h:DataW.trod enc Tryz.prog W 0 (fun _=>true) held m 26 [c0,c1]=some y):∃x:Int×Int,[c0,c1]=[Iv x.1,Iv x.2]∧qz x.1∧qz x.2:=by
 obtain⟨xs,n,_,_,hl,hxl,hf⟩:=DataW.trod_struct Tryz.underlying26 h;have key:∀i,i<2→∃y,xs[i]? =some y:=fun i hi=>⟨_,List.getElem?_eq_getElem (by rw[hxl];exact hi)⟩
 obtain⟨y0,e0⟩:=key 0 qG
 have g0:DataW.trod enc Tryz.prog W 0 (fun _=>true) held n 2 [c0]=some y0:=by
  have:=hf 0 _ rfl;rw[e0]at this;simpa[jC,js,jD,jE,jF,jt,jw,jz,jG,jH,zG,zH,zI,zJ,zK]using this
 obtain⟨v0,rfl,h0⟩:=vz Tryz.underlying2 g0;obtain⟨y1,e1⟩:=key 1 qG
 have g1:DataW.trod enc Tryz.prog W 0 (fun _=>true) held n 2 [c1]=some y1:=by
  have:=hf 1 _ rfl;rw[e1]at this;simpa[jC,js,jD,jE,jF,jt,jw,jz,jG,jH,zG,zH,zI,zJ,zK]using this
 obtain⟨v1,rfl,h1⟩:=vz Tryz.underlying2 g1;exact⟨(v0,v1),rfl,h0,h1⟩
theorem WM{m:Nat}{c0 c1:Value}{y:DataW H×List MemPlace}(h:DataW.trod enc Tryz.prog W 0 (fun _=>true) held m 55 [c0,c1]=some y):∃x:Int×Int,[c0,c1]=[Iv x.1,Iv x.2]∧qz x.1∧qz x.2:=by
 obtain⟨xs,n,_,_,hl,hxl,hf⟩:=DataW.trod_struct Tryz.underlying55 h;have key:∀i,i<2→∃y,xs[i]? =some y:=fun i hi=>⟨_,List.getElem?_eq_getElem (by rw[hxl];exact hi)⟩
 obtain⟨y0,e0⟩:=key 0 qG
 have g0:DataW.trod enc Tryz.prog W 0 (fun _=>true) held n 2 [c0]=some y0:=by
  have:=hf 0 _ rfl;rw[e0]at this;simpa[jC,js,jD,jE,jF,jt,jw,jz,jG,jH,zG,zH,zI,zJ,zK]using this
 obtain⟨v0,rfl,h0⟩:=vz Tryz.underlying2 g0;obtain⟨y1,e1⟩:=key 1 qG
 have g1:DataW.trod enc Tryz.prog W 0 (fun _=>true) held n 2 [c1]=some y1:=by
  have:=hf 1 _ rfl;rw[e1]at this;simpa[jC,js,jD,jE,jF,jt,jw,jz,jG,jH,zG,zH,zI,zJ,zK]using this
 obtain⟨v1,rfl,h1⟩:=vz Tryz.underlying2 g1;exact⟨(v0,v1),rfl,h0,h1⟩
theorem Dg{m:Nat}{c0 c1:Value}{y:DataW H×List MemPlace}(h:DataW.trod enc Tryz.prog W 0 (fun _=>true) held m 145 [c0,c1]=some y):∃x:Int×Int,[c0,c1]=[Iv x.1,Iv x.2]∧qz x.1∧qz x.2:=by
 obtain⟨xs,n,_,_,hl,hxl,hf⟩:=DataW.trod_struct Tryz.underlying145 h;have key:∀i,i<2→∃y,xs[i]? =some y:=fun i hi=>⟨_,List.getElem?_eq_getElem (by rw[hxl];exact hi)⟩
 obtain⟨y0,e0⟩:=key 0 qG
 have g0:DataW.trod enc Tryz.prog W 0 (fun _=>true) held n 2 [c0]=some y0:=by
  have:=hf 0 _ rfl;rw[e0]at this;simpa[jC,js,jD,jE,jF,jt,jw,jz,jG,jH,zG,zH,zI,zJ,zK]using this
 obtain⟨v0,rfl,h0⟩:=vz Tryz.underlying2 g0;obtain⟨y1,e1⟩:=key 1 qG
 have g1:DataW.trod enc Tryz.prog W 0 (fun _=>true) held n 2 [c1]=some y1:=by
  have:=hf 1 _ rfl;rw[e1]at this;simpa[jC,js,jD,jE,jF,jt,jw,jz,jG,jH,zG,zH,zI,zJ,zK]using this
 obtain⟨v1,rfl,h1⟩:=vz Tryz.underlying2 g1;exact⟨(v0,v1),rfl,h0,h1⟩
theorem Dh{m:Nat}{c0 c1 c2 c3 c4 c5 c6:Value}{y:DataW H×List MemPlace}(h:DataW.trod enc Tryz.prog W 0 (fun _=>true) held m 57 [c0,c1,c2,c3,c4,c5,c6]=some y):∃x:Nd,[c0,c1,c2,c3,c4,c5,c6]=x.cells∧x.ok:=by
 obtain⟨xs,n,_,_,hl,hxl,hf⟩:=DataW.trod_struct Tryz.underlying57 h;have key:∀i,i<4→∃y,xs[i]? =some y:=fun i hi=>⟨_,List.getElem?_eq_getElem (by rw[hxl];exact hi)⟩
 obtain⟨y0,e0⟩:=key 0 qG
 have g0:DataW.trod enc Tryz.prog W 0 (fun _=>true) held n 26 [c0,c1]=some y0:=by
  have:=hf 0 _ rfl;rw[e0]at this;simpa[jC,js,jD,jE,jF,jt,jw,jz,jG,jH,zG,zH,zI,zJ,zK]using this
 obtain⟨v0,q0,h0⟩:=WL g0;obtain⟨rfl,rfl⟩:=dX q0;obtain⟨y1,e1⟩:=key 1 qG
 have g1:DataW.trod enc Tryz.prog W 0 (fun _=>true) held n 2 [c2]=some y1:=by
  have:=hf 1 _ rfl;rw[e1]at this;simpa[jC,js,jD,jE,jF,jt,jw,jz,jG,jH,zG,zH,zI,zJ,zK]using this
 obtain⟨v1,rfl,h1⟩:=vz Tryz.underlying2 g1;obtain⟨y2,e2⟩:=key 2 qG
 have g2:DataW.trod enc Tryz.prog W 0 (fun _=>true) held n 55 [c3,c4]=some y2:=by
  have:=hf 2 _ rfl;rw[e2]at this;simpa[jC,js,jD,jE,jF,jt,jw,jz,jG,jH,zG,zH,zI,zJ,zK]using this
 obtain⟨v2,q2,h2⟩:=WM g2;obtain⟨rfl,rfl⟩:=dX q2;obtain⟨y3,e3⟩:=key 3 qG
 have g3:DataW.trod enc Tryz.prog W 0 (fun _=>true) held n 55 [c5,c6]=some y3:=by
  have:=hf 3 _ rfl;rw[e3]at this;simpa[jC,js,jD,jE,jF,jt,jw,jz,jG,jH,zG,zH,zI,zJ,zK]using this
 obtain⟨v3,q3,h3⟩:=WM g3;obtain⟨rfl,rfl⟩:=dX q3;exact⟨⟨v0.1,v0.2,v1,v2.1,v2.2,v3.1,v3.2⟩,rfl,⟨h0.1,h0.2,h1,h2.1,h2.2,h3.1,h3.2⟩⟩
theorem gG{m:Nat}{c:Value}{y:DataW H×List MemPlace}(h:DataW.trod enc Tryz.prog W 0 (fun _=>true) held m 32 [c]=some y):∃x:Sl,c=x.v∧fS W x:=by
 obtain⟨S,n,cap,f,rfl,hn,hf⟩:=JZ (fun z:Int=>[Value.int .i64 z]) qz Tryz.underlying32 js qG (fun _=>rfl) (fun n cs y hy hl=>by
  obtain⟨c0,rfl⟩:=List.length_eq_one_iff.1 hl;obtain⟨v,rfl,hv⟩:=vz Tryz.underlying2 hy
  exact⟨v,rfl,hv⟩) h
 refine⟨⟨S,n,cap⟩,rfl,hn,f,fun k hk=> ?_⟩;obtain⟨b,o,e,h1,h2⟩:=hf k hk;have:=h1 0 _ rfl;rw[Nat.mul_one]at this;exact⟨b,o,e,this,h2⟩
theorem WN{m:Nat}{c:Value}{y:DataW H×List MemPlace}(h:DataW.trod enc Tryz.prog W 0 (fun _=>true) held m 36 [c]=some y):∃x:Sl,c=x.v∧EL W x:=by
 obtain⟨S,n,cap,f,rfl,hn,hf⟩:=JZ (fun z:Int×Int=>[Value.int .i64 z.1,Iv z.2]) (fun z=>qz z.1∧qz z.2) Tryz.underlying36 jt qG (fun _=>rfl) (fun n cs y hy hl=>by
  match cs,hl with
  | [c0,c1],_=>exact Dg hy) h
 exact⟨⟨S,n,cap⟩,rfl,hn,f,hf⟩
theorem WO{m:Nat}{c:Value}{y:DataW H×List MemPlace}(h:DataW.trod enc Tryz.prog W 0 (fun _=>true) held m 31 [c]=some y):∃x:Sl,c=x.v∧x.n≤maxLen∧∃f,Jc W x.S x.n f:=by
 haveI:Inhabited Nd:=⟨⟨0,0,0,0,0,0,0⟩⟩
 obtain⟨S,n,cap,f,rfl,hn,hf⟩:=JZ (fun z:Nd=>z.cells) Nd.ok Tryz.underlying31 jw qG (fun _=>rfl) (fun n cs y hy hl=>by
  match cs,hl with
  | [c0,c1,c2,c3,c4,c5,c6],_=>exact Dh hy) h
 exact⟨⟨S,n,cap⟩,rfl,hn,f,hf⟩
theorem BJ{m:Nat}{c:Value}{y:DataW H×List MemPlace}(h:DataW.trod enc Tryz.prog W 0 (fun _=>true) held m 33 [c]=some y):∃x:Sl,c=x.v∧DZ W x:=by
 haveI:Inhabited Sl:=⟨⟨none,0,0⟩⟩
 obtain⟨S,n,cap,f,rfl,hn,hf⟩:=JZ (fun z:Sl=>[z.v]) (fun z=>fS W z) Tryz.underlying33 jz qG (fun _=>rfl) (fun n cs y hy hl=>by
  obtain⟨c0,rfl⟩:=List.length_eq_one_iff.1 hl;obtain⟨x,rfl,hx⟩:=gG hy
  exact⟨x,rfl,hx⟩) h
 refine⟨⟨S,n,cap⟩,rfl,hn,f,fun k hk=> ?_⟩;obtain⟨b,o,e,h1,h2⟩:=hf k hk;have:=h1 0 _ rfl;rw[Nat.mul_one]at this;exact⟨b,o,e,this,h2⟩
theorem Di{m:Nat}{c0 c1 c2 c3 c4 c5 c6 c7 c8 c9 c10 c11 c12 c13 c14:Value}{y:DataW H×List MemPlace}(h:DataW.trod enc Tryz.prog W 0 (fun _=>true) held m 35 [c0,c1,c2,c3,c4,c5,c6,c7,c8,c9,c10,c11,c12,c13,c14]=some y):∃x:Pf,[c0,c1,c2,c3,c4,c5,c6,c7,c8,c9,c10,c11,c12,c13,c14]=x.cells∧Qx W x:=by
 obtain⟨xs,n,_,_,hl,hxl,hf⟩:=DataW.trod_struct Tryz.underlying35 h;have key:∀i,i<15→∃y,xs[i]? =some y:=fun i hi=>⟨_,List.getElem?_eq_getElem (by rw[hxl];exact hi)⟩
 obtain⟨y0,e0⟩:=key 0 qG
 have g0:DataW.trod enc Tryz.prog W 0 (fun _=>true) held n 9 [c0]=some y0:=by
  have:=hf 0 _ rfl;rw[e0]at this;simpa[jC,js,jD,jE,jF,jt,jw,jz,jG,jH,zG,zH,zI,zJ,zK]using this
 obtain⟨v0,rfl,h0⟩:=Ew Tryz.underlying9 g0;obtain⟨y1,e1⟩:=key 1 qG
 have g1:DataW.trod enc Tryz.prog W 0 (fun _=>true) held n 2 [c1]=some y1:=by
  have:=hf 1 _ rfl;rw[e1]at this;simpa[jC,js,jD,jE,jF,jt,jw,jz,jG,jH,zG,zH,zI,zJ,zK]using this
 obtain⟨v1,rfl,h1⟩:=vz Tryz.underlying2 g1;obtain⟨y2,e2⟩:=key 2 qG
 have g2:DataW.trod enc Tryz.prog W 0 (fun _=>true) held n 2 [c2]=some y2:=by
  have:=hf 2 _ rfl;rw[e2]at this;simpa[jC,js,jD,jE,jF,jt,jw,jz,jG,jH,zG,zH,zI,zJ,zK]using this
 obtain⟨v2,rfl,h2⟩:=vz Tryz.underlying2 g2;obtain⟨y3,e3⟩:=key 3 qG
 have g3:DataW.trod enc Tryz.prog W 0 (fun _=>true) held n 32 [c3]=some y3:=by
  have:=hf 3 _ rfl;rw[e3]at this;simpa[jC,js,jD,jE,jF,jt,jw,jz,jG,jH,zG,zH,zI,zJ,zK]using this
 obtain⟨v3,rfl,h3⟩:=gG g3;obtain⟨y4,e4⟩:=key 4 qG
 have g4:DataW.trod enc Tryz.prog W 0 (fun _=>true) held n 32 [c4]=some y4:=by
  have:=hf 4 _ rfl;rw[e4]at this;simpa[jC,js,jD,jE,jF,jt,jw,jz,jG,jH,zG,zH,zI,zJ,zK]using this
 obtain⟨v4,rfl,h4⟩:=gG g4;obtain⟨y5,e5⟩:=key 5 qG
 have g5:DataW.trod enc Tryz.prog W 0 (fun _=>true) held n 33 [c5]=some y5:=by
  have:=hf 5 _ rfl;rw[e5]at this;simpa[jC,js,jD,jE,jF,jt,jw,jz,jG,jH,zG,zH,zI,zJ,zK]using this
 obtain⟨v5,rfl,h5⟩:=BJ g5;obtain⟨y6,e6⟩:=key 6 qG
 have g6:DataW.trod enc Tryz.prog W 0 (fun _=>true) held n 33 [c6]=some y6:=by
  have:=hf 6 _ rfl;rw[e6]at this;simpa[jC,js,jD,jE,jF,jt,jw,jz,jG,jH,zG,zH,zI,zJ,zK]using this
 obtain⟨v6,rfl,h6⟩:=BJ g6;obtain⟨y7,e7⟩:=key 7 qG
 have g7:DataW.trod enc Tryz.prog W 0 (fun _=>true) held n 33 [c7]=some y7:=by
  have:=hf 7 _ rfl;rw[e7]at this;simpa[jC,js,jD,jE,jF,jt,jw,jz,jG,jH,zG,zH,zI,zJ,zK]using this
 obtain⟨v7,rfl,h7⟩:=BJ g7;obtain⟨y8,e8⟩:=key 8 qG
 have g8:DataW.trod enc Tryz.prog W 0 (fun _=>true) held n 32 [c8]=some y8:=by
  have:=hf 8 _ rfl;rw[e8]at this;simpa[jC,js,jD,jE,jF,jt,jw,jz,jG,jH,zG,zH,zI,zJ,zK]using this
 obtain⟨v8,rfl,h8⟩:=gG g8;obtain⟨y9,e9⟩:=key 9 qG
 have g9:DataW.trod enc Tryz.prog W 0 (fun _=>true) held n 32 [c9]=some y9:=by
  have:=hf 9 _ rfl;rw[e9]at this;simpa[jC,js,jD,jE,jF,jt,jw,jz,jG,jH,zG,zH,zI,zJ,zK]using this
 obtain⟨v9,rfl,h9⟩:=gG g9;obtain⟨y10,e10⟩:=key 10 qG
 have g10:DataW.trod enc Tryz.prog W 0 (fun _=>true) held n 32 [c10]=some y10:=by
  have:=hf 10 _ rfl;rw[e10]at this;simpa[jC,js,jD,jE,jF,jt,jw,jz,jG,jH,zG,zH,zI,zJ,zK]using this
 obtain⟨v10,rfl,h10⟩:=gG g10;obtain⟨y11,e11⟩:=key 11 qG
 have g11:DataW.trod enc Tryz.prog W 0 (fun _=>true) held n 32 [c11]=some y11:=by
  have:=hf 11 _ rfl;rw[e11]at this;simpa[jC,js,jD,jE,jF,jt,jw,jz,jG,jH,zG,zH,zI,zJ,zK]using this
 obtain⟨v11,rfl,h11⟩:=gG g11;obtain⟨y12,e12⟩:=key 12 qG
 have g12:DataW.trod enc Tryz.prog W 0 (fun _=>true) held n 2 [c12]=some y12:=by
  have:=hf 12 _ rfl;rw[e12]at this;simpa[jC,js,jD,jE,jF,jt,jw,jz,jG,jH,zG,zH,zI,zJ,zK]using this
 obtain⟨v12,rfl,h12⟩:=vz Tryz.underlying2 g12;obtain⟨y13,e13⟩:=key 13 qG
 have g13:DataW.trod enc Tryz.prog W 0 (fun _=>true) held n 2 [c13]=some y13:=by
  have:=hf 13 _ rfl;rw[e13]at this;simpa[jC,js,jD,jE,jF,jt,jw,jz,jG,jH,zG,zH,zI,zJ,zK]using this
 obtain⟨v13,rfl,h13⟩:=vz Tryz.underlying2 g13;obtain⟨y14,e14⟩:=key 14 qG
 have g14:DataW.trod enc Tryz.prog W 0 (fun _=>true) held n 2 [c14]=some y14:=by
  have:=hf 14 _ rfl;rw[e14]at this;simpa[jC,js,jD,jE,jF,jt,jw,jz,jG,jH,zG,zH,zI,zJ,zK]using this
 obtain⟨v14,rfl,h14⟩:=vz Tryz.underlying2 g14;exact⟨⟨v0,v1,v2,v3,v4,v5,v6,v7,v8,v9,v10,v11,v12,v13,v14⟩,rfl,⟨h0,h1,h2,h12,h13,h14,h3,h4,h5,h6,h7,h8,h9,h10,h11⟩⟩
theorem Dj{m:Nat}{c0 c1 c2 c3 c4 c5 c6 c7 c8:Value}{y:DataW H×List MemPlace}(h:DataW.trod enc Tryz.prog W 0 (fun _=>true) held m 38 [c0,c1,c2,c3,c4,c5,c6,c7,c8]=some y):∃x:Gd,[c0,c1,c2,c3,c4,c5,c6,c7,c8]=x.cells∧Zz W x:=by
 obtain⟨xs,n,_,_,hl,hxl,hf⟩:=DataW.trod_struct Tryz.underlying38 h;have key:∀i,i<8→∃y,xs[i]? =some y:=fun i hi=>⟨_,List.getElem?_eq_getElem (by rw[hxl];exact hi)⟩
 obtain⟨y0,e0⟩:=key 0 qG
 have g0:DataW.trod enc Tryz.prog W 0 (fun _=>true) held n 26 [c0,c1]=some y0:=by
  have:=hf 0 _ rfl;rw[e0]at this;simpa[jC,js,jD,jE,jF,jt,jw,jz,jG,jH,zG,zH,zI,zJ,zK]using this
 obtain⟨v0,q0,h0⟩:=WL g0;obtain⟨rfl,rfl⟩:=dX q0;obtain⟨y1,e1⟩:=key 1 qG
 have g1:DataW.trod enc Tryz.prog W 0 (fun _=>true) held n 2 [c2]=some y1:=by
  have:=hf 1 _ rfl;rw[e1]at this;simpa[jC,js,jD,jE,jF,jt,jw,jz,jG,jH,zG,zH,zI,zJ,zK]using this
 obtain⟨v1,rfl,h1⟩:=vz Tryz.underlying2 g1;obtain⟨y2,e2⟩:=key 2 qG
 have g2:DataW.trod enc Tryz.prog W 0 (fun _=>true) held n 3 [c3]=some y2:=by
  have:=hf 2 _ rfl;rw[e2]at this;simpa[jC,js,jD,jE,jF,jt,jw,jz,jG,jH,zG,zH,zI,zJ,zK]using this
 obtain⟨v2,rfl,h2⟩:=vz Tryz.underlying3 g2;obtain⟨y3,e3⟩:=key 3 qG
 have g3:DataW.trod enc Tryz.prog W 0 (fun _=>true) held n 3 [c4]=some y3:=by
  have:=hf 3 _ rfl;rw[e3]at this;simpa[jC,js,jD,jE,jF,jt,jw,jz,jG,jH,zG,zH,zI,zJ,zK]using this
 obtain⟨v3,rfl,h3⟩:=vz Tryz.underlying3 g3;obtain⟨y4,e4⟩:=key 4 qG
 have g4:DataW.trod enc Tryz.prog W 0 (fun _=>true) held n 32 [c5]=some y4:=by
  have:=hf 4 _ rfl;rw[e4]at this;simpa[jC,js,jD,jE,jF,jt,jw,jz,jG,jH,zG,zH,zI,zJ,zK]using this
 obtain⟨v4,rfl,h4⟩:=gG g4;obtain⟨y5,e5⟩:=key 5 qG
 have g5:DataW.trod enc Tryz.prog W 0 (fun _=>true) held n 36 [c6]=some y5:=by
  have:=hf 5 _ rfl;rw[e5]at this;simpa[jC,js,jD,jE,jF,jt,jw,jz,jG,jH,zG,zH,zI,zJ,zK]using this
 obtain⟨v5,rfl,h5⟩:=WN g5;obtain⟨y6,e6⟩:=key 6 qG
 have g6:DataW.trod enc Tryz.prog W 0 (fun _=>true) held n 32 [c7]=some y6:=by
  have:=hf 6 _ rfl;rw[e6]at this;simpa[jC,js,jD,jE,jF,jt,jw,jz,jG,jH,zG,zH,zI,zJ,zK]using this
 obtain⟨v6,rfl,h6⟩:=gG g6;obtain⟨y7,e7⟩:=key 7 qG
 have g7:DataW.trod enc Tryz.prog W 0 (fun _=>true) held n 2 [c8]=some y7:=by
  have:=hf 7 _ rfl;rw[e7]at this;simpa[jC,js,jD,jE,jF,jt,jw,jz,jG,jH,zG,zH,zI,zJ,zK]using this
 obtain⟨v7,rfl,h7⟩:=vz Tryz.underlying2 g7;exact⟨⟨v0.1,v0.2,v1,v2,v3,v4,v5,v6,v7⟩,rfl,⟨h0.1,h0.2,h1,h2,h3,h7,h4,h5,h6⟩⟩
theorem Rz{m:Nat}{c0 c1 c2 c3:Value}{y:DataW H×List MemPlace}(h:DataW.trod enc Tryz.prog W 0 (fun _=>true) held m 40 [c0,c1,c2,c3]=some y):∃x:Int×Int×Int×Int,[c0,c1,c2,c3]=[Iv x.1,Iv x.2.1,Iv x.2.2.1,Iv x.2.2.2]∧qz x.1∧qz x.2.1∧qz x.2.2.1∧qz x.2.2.2:=by
 obtain⟨xs,n,_,_,hl,hxl,hf⟩:=DataW.trod_struct Tryz.underlying40 h;have key:∀i,i<4→∃y,xs[i]? =some y:=fun i hi=>⟨_,List.getElem?_eq_getElem (by rw[hxl];exact hi)⟩
 obtain⟨y0,e0⟩:=key 0 qG
 have g0:DataW.trod enc Tryz.prog W 0 (fun _=>true) held n 2 [c0]=some y0:=by
  have:=hf 0 _ rfl;rw[e0]at this;simpa[jC,js,jD,jE,jF,jt,jw,jz,jG,jH,zG,zH,zI,zJ,zK]using this
 obtain⟨v0,rfl,h0⟩:=vz Tryz.underlying2 g0;obtain⟨y1,e1⟩:=key 1 qG
 have g1:DataW.trod enc Tryz.prog W 0 (fun _=>true) held n 2 [c1]=some y1:=by
  have:=hf 1 _ rfl;rw[e1]at this;simpa[jC,js,jD,jE,jF,jt,jw,jz,jG,jH,zG,zH,zI,zJ,zK]using this
 obtain⟨v1,rfl,h1⟩:=vz Tryz.underlying2 g1;obtain⟨y2,e2⟩:=key 2 qG
 have g2:DataW.trod enc Tryz.prog W 0 (fun _=>true) held n 2 [c2]=some y2:=by
  have:=hf 2 _ rfl;rw[e2]at this;simpa[jC,js,jD,jE,jF,jt,jw,jz,jG,jH,zG,zH,zI,zJ,zK]using this
 obtain⟨v2,rfl,h2⟩:=vz Tryz.underlying2 g2;obtain⟨y3,e3⟩:=key 3 qG
 have g3:DataW.trod enc Tryz.prog W 0 (fun _=>true) held n 2 [c3]=some y3:=by
  have:=hf 3 _ rfl;rw[e3]at this;simpa[jC,js,jD,jE,jF,jt,jw,jz,jG,jH,zG,zH,zI,zJ,zK]using this
 obtain⟨v3,rfl,h3⟩:=vz Tryz.underlying2 g3;exact⟨(v0,v1,v2,v3),rfl,h0,h1,h2,h3⟩
theorem WP{m:Nat}{c0 c1 c2 c3 c4 c5 c6 c7 c8 c9 c10 c11 c12 c13 c14 c15 c16 c17 c18 c19 c20 c21 c22 c23 c24 c25 c26 c27 c28 c29 c30 c31 c32 c33 c34 c35:Value}{y:DataW H×List MemPlace}(h:DataW.trod enc Tryz.prog W 0 (fun _=>true) held m 42 [c0,c1,c2,c3,c4,c5,c6,c7,c8,c9,c10,c11,c12,c13,c14,c15,c16,c17,c18,c19,c20,c21,c22,c23,c24,c25,c26,c27,c28,c29,c30,c31,c32,c33,c34,c35]=some y):∃(x:Su) (f:Nat→Nd),[c0,c1,c2,c3,c4,c5,c6,c7,c8,c9,c10,c11,c12,c13,c14,c15,c16,c17,c18,c19,c20,c21,c22,c23,c24,c25,c26,c27,c28,c29,c30,c31,c32,c33,c34,c35]=x.cells∧xF W x f:=by
 obtain⟨xs,n,_,_,hl,hxl,hf⟩:=DataW.trod_struct Tryz.underlying42 h;have key:∀i,i<11→∃y,xs[i]? =some y:=fun i hi=>⟨_,List.getElem?_eq_getElem (by rw[hxl];exact hi)⟩
 obtain⟨y0,e0⟩:=key 0 qG
 have g0:DataW.trod enc Tryz.prog W 0 (fun _=>true) held n 31 [c0]=some y0:=by
  have:=hf 0 _ rfl;rw[e0]at this;simpa[jC,js,jD,jE,jF,jt,jw,jz,jG,jH,zG,zH,zI,zJ,zK]using this
 obtain⟨v0,rfl,h0⟩:=WO g0;obtain⟨y1,e1⟩:=key 1 qG
 have g1:DataW.trod enc Tryz.prog W 0 (fun _=>true) held n 35 [c1,c2,c3,c4,c5,c6,c7,c8,c9,c10,c11,c12,c13,c14,c15]=some y1:=by
  have:=hf 1 _ rfl;rw[e1]at this;simpa[jC,js,jD,jE,jF,jt,jw,jz,jG,jH,zG,zH,zI,zJ,zK]using this
 obtain⟨v1,q1,h1⟩:=Di g1;simp only[List.cons.injEq,and_true]at q1;obtain⟨rfl,rfl,rfl,rfl,rfl,rfl,rfl,rfl,rfl,rfl,rfl,rfl,rfl,rfl,rfl⟩:=q1;obtain⟨y2,e2⟩:=key 2 qG
 have g2:DataW.trod enc Tryz.prog W 0 (fun _=>true) held n 38 [c16,c17,c18,c19,c20,c21,c22,c23,c24]=some y2:=by
  have:=hf 2 _ rfl;rw[e2]at this;simpa[jC,js,jD,jE,jF,jt,jw,jz,jG,jH,zG,zH,zI,zJ,zK]using this
 obtain⟨v2,q2,h2⟩:=Dj g2;simp only[List.cons.injEq,and_true]at q2;obtain⟨rfl,rfl,rfl,rfl,rfl,rfl,rfl,rfl,rfl⟩:=q2;obtain⟨y3,e3⟩:=key 3 qG
 have g3:DataW.trod enc Tryz.prog W 0 (fun _=>true) held n 40 [c25,c26,c27,c28]=some y3:=by
  have:=hf 3 _ rfl;rw[e3]at this;simpa[jC,js,jD,jE,jF,jt,jw,jz,jG,jH,zG,zH,zI,zJ,zK]using this
 obtain⟨v3,q3,h3⟩:=Rz g3;simp only[List.cons.injEq,and_true]at q3;obtain⟨rfl,rfl,rfl,rfl⟩:=q3;obtain⟨y4,e4⟩:=key 4 qG
 have g4:DataW.trod enc Tryz.prog W 0 (fun _=>true) held n 2 [c29]=some y4:=by
  have:=hf 4 _ rfl;rw[e4]at this;simpa[jC,js,jD,jE,jF,jt,jw,jz,jG,jH,zG,zH,zI,zJ,zK]using this
 obtain⟨v4,rfl,h4⟩:=vz Tryz.underlying2 g4;obtain⟨y5,e5⟩:=key 5 qG
 have g5:DataW.trod enc Tryz.prog W 0 (fun _=>true) held n 2 [c30]=some y5:=by
  have:=hf 5 _ rfl;rw[e5]at this;simpa[jC,js,jD,jE,jF,jt,jw,jz,jG,jH,zG,zH,zI,zJ,zK]using this
 obtain⟨v5,rfl,h5⟩:=vz Tryz.underlying2 g5;obtain⟨y6,e6⟩:=key 6 qG
 have g6:DataW.trod enc Tryz.prog W 0 (fun _=>true) held n 2 [c31]=some y6:=by
  have:=hf 6 _ rfl;rw[e6]at this;simpa[jC,js,jD,jE,jF,jt,jw,jz,jG,jH,zG,zH,zI,zJ,zK]using this
 obtain⟨v6,rfl,h6⟩:=vz Tryz.underlying2 g6;obtain⟨y7,e7⟩:=key 7 qG
 have g7:DataW.trod enc Tryz.prog W 0 (fun _=>true) held n 2 [c32]=some y7:=by
  have:=hf 7 _ rfl;rw[e7]at this;simpa[jC,js,jD,jE,jF,jt,jw,jz,jG,jH,zG,zH,zI,zJ,zK]using this
 obtain⟨v7,rfl,h7⟩:=vz Tryz.underlying2 g7;obtain⟨y8,e8⟩:=key 8 qG
 have g8:DataW.trod enc Tryz.prog W 0 (fun _=>true) held n 2 [c33]=some y8:=by
  have:=hf 8 _ rfl;rw[e8]at this;simpa[jC,js,jD,jE,jF,jt,jw,jz,jG,jH,zG,zH,zI,zJ,zK]using this
 obtain⟨v8,rfl,h8⟩:=vz Tryz.underlying2 g8;obtain⟨y9,e9⟩:=key 9 qG
 have g9:DataW.trod enc Tryz.prog W 0 (fun _=>true) held n 2 [c34]=some y9:=by
  have:=hf 9 _ rfl;rw[e9]at this;simpa[jC,js,jD,jE,jF,jt,jw,jz,jG,jH,zG,zH,zI,zJ,zK]using this
 obtain⟨v9,rfl,h9⟩:=vz Tryz.underlying2 g9;obtain⟨y10,e10⟩:=key 10 qG
 have g10:DataW.trod enc Tryz.prog W 0 (fun _=>true) held n 2 [c35]=some y10:=by
  have:=hf 10 _ rfl;rw[e10]at this;simpa[jC,js,jD,jE,jF,jt,jw,jz,jG,jH,zG,zH,zI,zJ,zK]using this
 obtain⟨v10,rfl,h10⟩:=vz Tryz.underlying2 g10;exact⟨⟨v0.S,v0.n,v0.c,v1,v2,v3.1,v3.2.1,v3.2.2.1,v3.2.2.2,v4,v5,v6,v7,v8,v9,v10⟩,h0.2.choose,rfl,⟨h0.2.choose_spec,h0.1,h1,h2,h3.1,h3.2.1,h3.2.2.1,h3.2.2.2,h4,h5,h6,h7,h8,h9,h10⟩⟩
end
end Go.Proofs.YtiegohjobhehcaaGreatDoor
