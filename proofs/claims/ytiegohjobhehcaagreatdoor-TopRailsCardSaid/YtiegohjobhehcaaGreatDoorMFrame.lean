/-
  The frame of a law's proof, over any program: from a walk that ends in 'true' with old memory untouched to the row's step.
  The law: a function of plain data that returns one bool, its specification 'true, the arguments as they were'.
-/
import Derived.WalkKit
import Derived.ProofKit
import Derived.OpenShut
import Derived.Test.YtiegohjobhehcaaGreatDoorRows
namespace Go.Proofs.YtiegohjobhehcaaGreatDoor
open Go.ChangeShapes Go.WideShapes Go.ChangeAt Go.RowKit
section
variable{H:Type}{enc:TypeId×Value→H}{P:Program}
theorem ZH(hl:laidOutB P=true){W W':World}(hb:Below W.heap.size W W'):∀(ts:List TypeId) (vs:List Value) (ds:List (DataW H)) (p:List MemPlace),
 DataW.TrodAll enc P W 0 (fun _=>true) true ts vs ds p→(∀t∈ts,P.readableRec t=true∧t<P.types.size)→(∀x∈p,x.block<W.heap.size)→
 ∀sp:Nat→Bool,(∀x∈p,sp x.block=true)→DataW.TrodAll enc P W' 0 sp true ts vs ds p
 | [],[],[],p,h,_,_,_,_=>h
 |t::ts,v::vs,d::ds,p,h,hts,hlt,sp,hsp=>by
  obtain⟨p1,p2,h1,h2,rfl⟩:=h;have ht:=hts t (List.mem_cons_self ..);refine⟨p1,p2,?_,?_,rfl⟩
  ·exact WideElems.Trod_stays hl ht.1 ht.2 h1 (fun x hx=>hb.same (hlt x (List.mem_append_left _ hx))) (fun x hx=>hsp x (List.mem_append_left _ hx))
  ·exact ZH hl hb ts vs ds p2 h2 (fun t' ht'=>hts t' (List.mem_cons_of_mem _ ht')) (fun x hx=>hlt x (List.mem_append_right _ hx)) sp (fun x hx=>hsp x (List.mem_append_right _ hx))
 | [],[],_::_,_,h,_,_,_,_=>h.elim
 | [],_::_,_,_,h,_,_,_,_=>h.elim
 |_::_,[],_,_,h,_,_,_,_=>h.elim
 |_::_,_::_,[],_,h,_,_,_,_=>h.elim
theorem trodAll_length{W:World}{base:Nat}{sp:Nat→Bool}{held:Bool}:∀(ts:List TypeId) (vs:List Value) (ds:List (DataW H)) (p:List MemPlace),
 DataW.TrodAll enc P W base sp held ts vs ds p→vs.length=ts.length∧ds.length=ts.length
 | [],[],[],_,_=>⟨rfl,rfl⟩
 |t::ts,v::vs,d::ds,p,h=>by
  obtain⟨p1,p2,h1,h2,rfl⟩:=h;have:=trodAll_length ts vs ds p2 h2;simp[this.1,this.2]
 | [],[],_::_,_,h=>h.elim
 | [],_::_,_,_,h=>h.elim
 |_::_,[],_,_,h=>h.elim
 |_::_,_::_,[],_,h=>h.elim
theorem eI{f:Func}{s:ChangeSpec}{W W':World}{args:Array Value}{ds gs:List (DataW H)}{before:List MemPlace}{tb:TypeId}
 (hl:laidOutB P=true) (hts:∀t∈f.params.toList,P.readableRec t=true∧t<P.types.size)
 (hsv:s.vars=[]) (hr:f.resultTypes= #[tb]) (htb:P.underlying tb=some .bool)
 (hW:DataW.Whole enc P f.params.toList s.vars false W args.toList ds gs before)
 (hfn:(s.fn H ds).results=[.lit (.bool true)]∧(s.fn H ds).args=ds∧(s.fn H ds).vars=[]) (hb:Below W.heap.size W W'):
 s.post enc P f false true false false W args (.bool true) W':=by
 have hlt:∀p∈before,p.block<W.heap.size:=fun p hp=>hW.lt p hp
 have hW0:=hW;obtain⟨p,q,hA,hV,hbe,hz,_⟩:=hW;rw[hsv]at hV;obtain⟨rfl,rfl⟩:=trodVars_none hV;obtain⟨h1,h2,h3⟩:=hfn;obtain rfl:before=p:=by simpa using hbe
 have hds:ds++([]:List (DataW H))=ds:=List.append_nil _
 have hargs:∀sp:Nat→Bool,(∀x∈before,sp x.block=true)→DataW.TrodAll enc P W' 0 sp true f.params.toList args.toList (s.fn H (ds++[])).args before:=by
  intro sp hsp;rw[hds,h2];exact ZH hl hb _ _ _ _ hA hts hlt sp hsp
 have hres:∀(b:Nat) (sp:Nat→Bool) (hd:Bool),DataW.TrodAll enc P W' b sp hd f.resultTypes.toList ((Value.bool true).resultList f.resultTypes.size) (s.fn H (ds++[])).results []:=by
  intro b sp hd;rw[hr,hds,h1];exact trodAll_mk1 (shut_bool htb true)
 have hvars:∀sp:Nat→Bool,DataW.TrodVars enc P W' sp s.vars (s.fn H (ds++[])).vars []:=by
  intro sp;rw[hds,h3,hsv];rfl
 refine⟨ds,[],before,[],before,[],hW0,hres _ _ _,hargs _ (fun x hx=>by simpa using hlt x hx),hvars _,World.keptBut_mono (fun x hx=>⟨hx,Or.inr (Or.inl hx)⟩) (hb.frame (· ∈before)),fun _=> ?_⟩;have hall:=trodAll_append (hargs (fun _=>true) (fun _ _=>rfl)) (hres 0 (fun _=>true) true);refine⟨ok_one hr rfl (okWide_bool_mk htb true),_,_,([]++before)++[],⟨[]++before,[],hall,hvars _,rfl,?_,fun h=>by cases h⟩,fun x hx _=>by simpa using hx⟩;intro b off hp;have hin:MemPlace.cell b off∈before:=by simpa using hp
 rw[hb.frozen (hlt _ hin)];exact hz b off hin
end
section
variable{P:Program}{w:World}{r:Reach}{base:Nat}{t:TypeId}{v:Value}
def qz(n:Int):Prop:= -9223372036854775808≤n∧n≤9223372036854775807
theorem eJ(ht:P.underlying t=some (.int .i64))(h:Cell.okWide P w r base t v):∃n,v= .int .i64 n∧qz n:=by
 cases v<;>simp[Cell.okWide,Cell.ok,ht]at h;obtain⟨rfl,h1,h2⟩:=h;refine⟨_,rfl,?_⟩;simp[IntKind.min,IntKind.max,IntKind.signed,IntKind.bits]at h1 h2;unfold qz;omega
theorem eK{ts:List TypeId}(ht:(∃fs,P.underlying t=some (.struct fs))∨∃n e,P.underlying t=some (.array n e))(hts:P.cellTypes P.depth t=some ts)(hC:P.cellsOf t=ts.length)
 (h:Value.okWide P w r base t v):∃cs:List Value,v= .agg cs.toArray∧cs.length=ts.length∧∀(i:Nat) (x:Value),cs[i]? =some x→∃u,ts[i]? =some u∧Cell.okWide P w r base u x:=by
 have h':∃cs,v= .agg cs∧cs.size=P.cellsOf t∧Row.okWide P w r base t cs:=by
  rcases ht with⟨fs,ht⟩|⟨n,e,ht⟩<;>simpa[Value.okWide,ht]using h
 obtain⟨cs,rfl,hsz,ts',hts',_,hrow⟩:=h';rw[hts]at hts';obtain rfl:ts=ts':=by injection hts'
 refine⟨cs.toList,by simp,by simpa using hsz.trans hC,fun i x hx=> ?_⟩;have hx':cs[i]? =some x:=by simpa using hx
 obtain⟨u,hu,hc⟩:=hrow i x hx'
 have hi:i<ts.length:=by
  have:i<cs.size:=(Array.getElem?_eq_some_iff.1 hx').1;omega
 rw[Nat.mod_eq_of_lt hi]at hu;exact⟨u,hu,hc⟩
theorem mX:∀(cs:List Value),(∀x∈cs,∃n,x= .int .i64 n∧qz n)→∃ns:List Int,cs=ns.map (Value.int .i64)∧∀n∈ns,qz n
 | [],_=>⟨[],rfl,by simp⟩
 |c::cs,h=>by
  obtain⟨n,rfl,hn⟩:=h c (List.mem_cons_self ..);obtain⟨ns,rfl,hns⟩:=mX cs (fun x hx=>h x (List.mem_cons_of_mem _ hx));exact⟨n::ns,rfl,by simpa using⟨hn,hns⟩⟩
theorem Nz{ts:List TypeId}(ht:(∃fs,P.underlying t=some (.struct fs))∨∃n e,P.underlying t=some (.array n e))(hts:P.cellTypes P.depth t=some ts)(hC:P.cellsOf t=ts.length)
 (hall:∀u∈ts,P.underlying u=some (.int .i64)) (h:Value.okWide P w r base t v):∃ns:List Int,v= .agg (ns.map (Value.int .i64)).toArray∧ns.length=ts.length∧∀n∈ns,qz n:=by
 obtain⟨cs,rfl,hl,hc⟩:=eK ht hts hC h
 obtain⟨ns,rfl,hns⟩:=mX cs (fun x hx=>by
  obtain⟨i,hi,rfl⟩:=List.mem_iff_getElem.1 hx;obtain⟨u,hu,hcu⟩:=hc i cs[i] (List.getElem?_eq_getElem hi)
  exact eJ (hall u (List.mem_of_getElem? hu)) hcu)
 exact⟨ns,rfl,by simpa using hl,hns⟩
theorem DR{α:Type}{l:List α}(h:l.length=2):∃x0 x1:α,l=[x0,x1]:=by
 match l,h with
 | [x0,x1],_=>exact⟨x0,x1,rfl⟩
theorem Ag{α:Type}{l:List α}(h:l.length=4):∃x0 x1 x2 x3:α,l=[x0,x1,x2,x3]:=by
 match l,h with
 | [x0,x1,x2,x3],_=>exact⟨x0,x1,x2,x3,rfl⟩
theorem Ah{α:Type}{l:List α}(h:l.length=8):∃x0 x1 x2 x3 x4 x5 x6 x7:α,l=[x0,x1,x2,x3,x4,x5,x6,x7]:=by
 match l,h with
 | [x0,x1,x2,x3,x4,x5,x6,x7],_=>exact⟨x0,x1,x2,x3,x4,x5,x6,x7,rfl⟩
theorem Lc{α:Type}{l:Array α}(h:l.toList.length=2):∃x0 x1:α,l= #[x0,x1]:=by
 obtain⟨l⟩:=l;obtain⟨x0,x1,rfl⟩:=DR h;exact⟨x0,x1,rfl⟩
end
set_option linter.unusedSimpArgs false
theorem ul{a b:Bool}(ha:a=true)(hb:b=true):(a&&b)=true:=by rw[ha,hb];rfl
theorem Js(r:List Char):∀w:List Char,w.all (fun c=>c !=Char.ofNat 32)=true→wordsSigns (w++Char.ofNat 32::r)=w::wordsSigns r
 | [],_=>rfl
 |c::w,h=>by
  have h2:(c !=Char.ofNat 32)=true∧w.all (fun c=>c !=Char.ofNat 32)=true:=by simpa using h
  have hc:c≠Char.ofNat 32:=by simpa using h2.1
  have ih:=Js r w h2.2
  show wordsSigns (c::(w++Char.ofNat 32::r))=_
  rw[wordsSigns]
  ·rw[ih]
  ·intro e;exact hc e
def Gb:List Char:=(([102,108,105,103,104,116,100,101,99,107,47,102,108,105,103,104,116,100,101,99,107,116,111,112,46,84,111,112,82,97,105,108,115]:List Nat).map Char.ofNat)
def Zf:List Char:=(([104,97,114,110,101,115,115]:List Nat).map Char.ofNat)++Char.ofNat 32::((([55,53,100,50,98,52,49,53,52,53,54,49,48,97,56,54,102,56,51,101,102,53,55,53,48,102,52,57,97,99,99,55,98,100,57,54,56,54,54,50,53,55,54,48,54,50,55,49,53,50,57,52,48,49,56,57,54,55,99,100,56,57,51,98]:List Nat).map Char.ofNat)++Char.ofNat 32::((([99,117,116]:List Nat).map Char.ofNat)++Char.ofNat 32::((([97,116]:List Nat).map Char.ofNat)++Char.ofNat 32::Gb)))
theorem NA:Tryz.prog.initOrder=String.ofList Zf:=by kernel_rfl
theorem QI:Tryz.prog.initOrder.toList=Zf:=by rw[NA];exact String.toList_ofList
theorem ZU:wordsSigns Zf=(([104,97,114,110,101,115,115]:List Nat).map Char.ofNat)::(([55,53,100,50,98,52,49,53,52,53,54,49,48,97,56,54,102,56,51,101,102,53,55,53,48,102,52,57,97,99,99,55,98,100,57,54,56,54,54,50,53,55,54,48,54,50,55,49,53,50,57,52,48,49,56,57,54,55,99,100,56,57,51,98]:List Nat).map Char.ofNat)::(([99,117,116]:List Nat).map Char.ofNat)::(([97,116]:List Nat).map Char.ofNat)::wordsSigns Gb:=by
 unfold Zf;rw[Js _ _ (by decide),Js _ _ (by decide),Js _ _ (by decide),Js _ _ (by decide)]
theorem mY:laidOutB Tryz.prog=true:=by kernel_rfl
theorem NC:mapsRowed Tryz.prog=true:=by kernel_rfl
theorem eO:(Tryz.prog.stops==[])=true:=by kernel_rfl
theorem eQ:(Tryz.prog.stopKnobs==[])=true:=by kernel_rfl
theorem eR:Tryz.prog.stopsHeard=true:=by kernel_rfl
def VC:List Char:=(([99,117,116]:List Nat).map Char.ofNat)
theorem fH(h s:List Char)(r:List (List Char))(h1:(h== "harness".toList||h== "ownmain".toList)=true)(h2:isSumSigns s=true):behindMainWord (h::s::r)=r:=by
 show(if(h== "harness".toList||h== "ownmain".toList)&&isSumSigns s then r else h::s::r)=r
 rw[h1,h2];rfl
theorem behind(R:List (List Char)):behindMainWord ((([104,97,114,110,101,115,115]:List Nat).map Char.ofNat)::(([55,53,100,50,98,52,49,53,52,53,54,49,48,97,56,54,102,56,51,101,102,53,55,53,48,102,52,57,97,99,99,55,98,100,57,54,56,54,54,50,53,55,54,48,54,50,55,49,53,50,57,52,48,49,56,57,54,55,99,100,56,57,51,98]:List Nat).map Char.ofNat)::VC::R)=VC::R:=
 fH _ _ _ (by kernel_rfl) (by kernel_rfl)
theorem ZV:∀(os:List String) (w:List Char) (ws:List (List Char)),os.all (fun o=>w !=o.toList)=true→stripLifts os (w::ws)=([],w::ws)
 | [],_,_,_=>rfl
 |o::os,w,ws,h=>by
  have h2:(w !=o.toList)=true∧os.all (fun o=>w !=o.toList)=true:=by simpa using h
  have hc:¬(w==o.toList)=true:=by simpa using h2.1
  unfold stripLifts;rw[if_neg hc];exact ZV os w ws h2.2
theorem KW:liftWords.all (fun o=>VC !=o.toList)=true:=by kernel_rfl
theorem eT:(some VC==some "cut".toList)=true:=by kernel_rfl
theorem eX(P:Program)(R:List (List Char))(hw:wordsSigns P.initOrder.toList=(([104,97,114,110,101,115,115]:List Nat).map Char.ofNat)::(([55,53,100,50,98,52,49,53,52,53,54,49,48,97,56,54,102,56,51,101,102,53,55,53,48,102,52,57,97,99,99,55,98,100,57,54,56,54,54,50,53,55,54,48,54,50,55,49,53,50,57,52,48,49,56,57,54,55,99,100,56,57,51,98]:List Nat).map Char.ofNat)::VC::R)(h1:P.laysLater=false)(h2:P.bearsReflect=false)(h3:P.doorFits []=true):P.mayEnter=true:=by
 unfold Program.mayEnter;rw[hw,behind];dsimp only;rw[ZV _ _ _ KW];simp only[List.head?_cons,eT,h1,h2,h3,List.contains_nil,Bool.not_false,Bool.or_true,Bool.false_or,Bool.true_and,Bool.and_true,Bool.true_or]
theorem eY(P:Program)(R:List (List Char))(hw:wordsSigns P.initOrder.toList=(([104,97,114,110,101,115,115]:List Nat).map Char.ofNat)::(([55,53,100,50,98,52,49,53,52,53,54,49,48,97,56,54,102,56,51,101,102,53,55,53,48,102,52,57,97,99,99,55,98,100,57,54,56,54,54,50,53,55,54,48,54,50,55,49,53,50,57,52,48,49,56,57,54,55,99,100,56,57,51,98]:List Nat).map Char.ofNat)::VC::R):P.liftsFinal=false:=by
 have c1:(some VC==some "carried".toList)=false:=by kernel_rfl
 unfold Program.liftsFinal Program.headLifts;rw[hw,behind];dsimp only;rw[ZV _ _ _ KW];simp only[List.head?_cons,c1,eT,Bool.false_and,Bool.false_or,if_true];rfl
theorem ND(P:Program)(R:List (List Char))(hw:wordsSigns P.initOrder.toList=(([104,97,114,110,101,115,115]:List Nat).map Char.ofNat)::(([55,53,100,50,98,52,49,53,52,53,54,49,48,97,56,54,102,56,51,101,102,53,55,53,48,102,52,57,97,99,99,55,98,100,57,54,56,54,54,50,53,55,54,48,54,50,55,49,53,50,57,52,48,49,56,57,54,55,99,100,56,57,51,98]:List Nat).map Char.ofNat)::VC::R):P.make=some .cut:=by
 have c1:(VC== "gc".toList||VC== "spec".toList)=false:=by kernel_rfl
 have c2:(VC== "cut".toList)=true:=by kernel_rfl
 unfold Program.make;rw[hw,behind];dsimp only;rw[if_neg (by rw[c1];decide),if_pos (by rw[c2];rfl)]
theorem NE:Tryz.prog.laysLater=false:=by kernel_rfl
theorem NF:Tryz.prog.bearsReflect=false:=by kernel_rfl
theorem NG:Tryz.prog.doorFits []=true:=by kernel_rfl
theorem ig:Tryz.prog.mayEnter=true:=eX Tryz.prog _ ((congrArg wordsSigns QI).trans ZU) NE NF NG
theorem ij:Tryz.prog.liftsFinal=false:=eY Tryz.prog _ ((congrArg wordsSigns QI).trans ZU)
theorem NH:Tryz.prog.make=some .cut:=ND Tryz.prog _ ((congrArg wordsSigns QI).trans ZU)
end Go.Proofs.YtiegohjobhehcaaGreatDoor
