/-
  The table of the fields that leg types use, in memory when the call begins.
-/
import Derived.Test.YtiegohjobhehcaaGreatDoorMPrdG
import Derived.Test.YtiegohjobhehcaaGreatDoorMPathP
namespace Go.Proofs.YtiegohjobhehcaaGreatDoor
open Go.ChangeShapes Go.WideShapes Go.ChangeAt Go.RowKit Go.WideElems
set_option linter.unusedVariables false
theorem qz4:Tryz.prog.globalNamed "flightdeck/leg.uses" =some 0:=qM
theorem tyU:(Tryz.prog.globals[0]?).map (·.type)=some 235:=qM
theorem clU:Tryz.prog.cellsOf 234=1:=qM
theorem qz3{W:World}(h:laidMetH Tryz.prog da W):yE W:=by
 rw[MakeChecks.laidMetH_plain _ _ _ qM]at h;obtain⟨ps,⟨g0,t0,cs0,f0,p0,q0,hg0,ht0,hv0,hd0,_⟩,_⟩:=h;obtain rfl:=Option.some.inj (qz4.symm.trans hg0);obtain rfl:=Option.some.inj (tyU.symm.trans ht0);obtain⟨xs,m1,_,hx1,hlen,hn3,hel⟩:=DataW.trod_array Tryz.underlying235 hd0;intro i n hi
 have hi2:i<18:=by
  have:=(List.getElem?_eq_some_iff.1 hi).1;simpa[iP]using this
 have hc:=World.var?_cell hg0 hv0 i;have hm:=hel i hi2;rw[clU,Nat.mul_one]at hm;obtain⟨y,hy⟩:∃y,xs[i]? =some y:=⟨_,List.getElem?_eq_getElem qg⟩;rw[hy]at hm;have hl:cs0.toList.length=18:=hlen.trans qM;obtain⟨c,hcc⟩:∃c,cs0.toList[i]? =some c:=⟨_,List.getElem?_eq_getElem qg⟩
 have e1:(cs0.toList.drop i).take 1=[c]:=by
  obtain⟨h1,h2⟩:=List.getElem?_eq_some_iff.1 hcc;rw[List.drop_eq_getElem_cons h1,h2];rfl
 rw[e1]at hm;obtain⟨k,ec,ey,_⟩:=DataW.trod_int Tryz.underlying234 hm;injection ec with ec;have hx:=congrArg (fun t=>t.1) hx1;dsimp only at hx;rw[show(Rows.laid_flightdeck_leg_uses:DataW Unit)= .agg (iP.map fun n=>DataW.lit (.int .u16 n))from rfl]at hx;injection hx with hx;have hz:(iP.map fun n=>(DataW.lit (.int .u16 n):DataW Unit))[i]? =(xs.map fun x=>x.1)[i]? :=by rw[hx]
 rw[List.getElem?_map,List.getElem?_map,hi,hy,ey]at hz;injection hz with hz;injection hz with hz;injection hz with _ hz;rw[hc,hz,←ec];simpa using hcc
open Go.RowKit
set_option linter.unusedSimpArgs false
def Ln(w:World)(S:Option Addr)(ps:List Pa):Prop:=∀(k:Nat) (p:Pa),ps[k]? =some p→∃b o,S=some ⟨b,o,none⟩∧∀(j:Nat) (v:Value),p.cells[j]? =some v→w.cell? ⟨b,o+k*13+j,none⟩=some v
theorem pT{w:World}{b o:Nat}{ps:List Pa}(h:Ln w (some ⟨b,o,none⟩) ps){k:Nat}{p:Pa}(hk:ps[k]? =some p):∀(j:Nat) (v:Value),p.cells[j]? =some v→w.cell? ⟨b,o+k*13+j,none⟩=some v:=by
 obtain⟨b2,o2,e,h1⟩:=h k p hk;injection e with e;injection e with e1 e2;subst e1 e2;exact h1
abbrev Ji(ps:List Pa)(k:Nat):Int:=(ps.getD k PF).ti
abbrev au(ps:List Pa)(k:Nat):Int:=(ps.getD k PF).gr
theorem getD_some{ps:List Pa}{k:Nat}{p:Pa}(h:ps[k]? =some p):ps.getD k PF=p:=by rw[List.getD_eq_getElem?_getD,h];rfl
theorem dO{D:Nat→Int}{N:Nat}(h:∀k,k<N→0≤D k∧D k≤8000000):∀k,k≤N→0≤kw D k∧kw D k≤8000000*k
 |0,_=>by simp[kw]
 |k+1,hk=>by
  have h1:=dO h k qg;have h2:=h k qg;simp only[kw];omega
theorem pU{x:Int}(h:qz x):sat x=x:=by unfold qz at h;unfold sat dF;(repeat' split)<;>omega
set_option maxRecDepth 100000 in
set_option maxHeartbeats 8000000 in
theorem MK(S A:Option Addr)(ps:List Pa)(N c qa i:Nat)(x y:Int)(b:Bool)(D:Nat→Int)(w:World)(hl:ps.length=N+1)(hN:N≤1000)(HP:Hid (Ln w S ps))(HA:Hid (jT w A N D))(HR:Hid (Km (Ji ps) (au ps) D N))(HG:Hid (∀k,k≤N→qz (au ps k)∧(1≤k→1≤au ps k)))(HT:Hid (∀k,k≤N→0≤Ji ps k∧Ji ps k≤8000000*k))(HD:Hid (∀k,k<N→0≤D k∧D k≤8000000))(hi:i≤N):
 Calls Tryz.prog 7 #[.agg #[.slice S (N+1) c,Iv x,Iv y,.bool b],.slice A N qa,Iv (Ji ps i)] w fun e w'=>e= .returned (.tuple #[Iv (kw D i),Iv 0])∧Below w.heap.size w w':=by
 have hM:=qo w
 have get:∀k,k≤N→∃p,ps[k]? =some p∧Ji ps k=p.ti∧au ps k=p.gr:=fun k hk=>by
  have:ps[k]? =some ps[k]:=List.getElem?_eq_getElem qg;exact⟨_,this,by unfold Ji;rw[getD_some this],by unfold au;rw[getD_some this]⟩
 obtain⟨pe,hpe,htN,-⟩:=get N (Nat.le_refl _);obtain⟨bp,op_,rfl,-⟩:=HP.out N pe hpe;have HLT:=hide (pT HP.out hpe 4 _ rfl);have hle:=JS HR.out hi (Nat.le_refl N);have hti:=HT.out i hi;have htn:=HT.out N (Nat.le_refl N);obtain⟨tn,hxn⟩:∃t,pe.ti=t:=⟨_,rfl⟩;rw[hxn]at HLT htN;rw[htN]at hle htn;have hiz:=nJ HR.out hi;obtain⟨t,ht⟩:∃t,Ji ps i=t:=⟨_,rfl⟩;rw[ht]at hle hti hiz⊢;have HTI:=hide ht;have HIZ:=hide hiz;have hb1:=dO HD.out;clear ht hiz hpe htN hxn;have wN:=zT (x:=((N+1:Nat):Int)-1) (y:=(N:Int)) qg qg;have n1:¬((N+1:Nat):Int)<1:=qg;have n2:¬t<0:=qg;have n3:¬tn<t:=qg;go_enter Tryz.func7,Tryz.ntmps7;go_upto_region 0 with fail;refine qj ?_;go_cut [3] (fun s3 wx=>∃g3:Nat,s3= .pointer (some ⟨g3,0,none⟩)∧qF w wx [(g3,[.slice (some ⟨bp,op_,none⟩) (N+1) c,Iv x,Iv y,.bool b],69)])
 case first=>
  go_wp2_with(first|(refine qe ?_;clear hM;intro g W hM))
  all_goals
   go_meet;exact⟨_,rfl,hM⟩
 case rest=>
 clear hM;obtain⟨g3,rfl,hM⟩:=hcut;go_upto_region 6 with(first|((with_reducible refine lX ?_);refine zD hM rfl (by first|exact rfl|(go_simp;done)) rfl (ur rfl) HLT.out ?_)|(refine qe ?_;clear hM;intro g W hM));by_cases hz:t=0
 ·have hz1:(t==0)=true:=by simpa using hz
  have HZ:=hide (HIZ.out hz);clear hz;go_wp2_with(first|(refine qe ?_;clear hM;intro g W hM))
  all_goals(go_ret2;exact⟨by rw[HZ.out];rfl,hM.below⟩)
 have hz1:(t==0)=false:=by simpa using hz
 have hi0:1≤i:=by
  rcases Nat.eq_zero_or_pos i with h|h
  ·subst h;have:=HR.out.zero;rw[HTI.out]at this;exact absurd this hz
  ·exact h
 clear hz n1 n2 n3 wN hle htn HLT;go_wp2_with(first|(refine qe ?_;clear hM;intro g W hM));go_loopw [9,10] (fun s9 s10 wx=>∃j:Nat,j+1≤i∧s9=Iv (kw D j)∧s10=Iv ((j:Int)+1)∧qF w wx [(g3,[.slice (some ⟨bp,op_,none⟩) (N+1) c,Iv x,Iv y,.bool b],69)]) (fun _ s _=>N+2-(intOf s).toNat)
 case atStart=>exact⟨0,hi0,rfl,rfl,hM⟩
 case round=>
  clear hM;obtain⟨j,hj,rfl,rfl,hM⟩:=hrel;obtain⟨q,hq,htq,hgq⟩:=get (j+1) qg;obtain⟨p,hp,htp,-⟩:=get j qg;have HC:=hide (pT HP.out hq);have HTC:=hide (pT HP.out hp 4 _ rfl);have hjN:j<N:=qg;obtain⟨bd,od,rfl,hdc,-⟩:=HA.out j hjN;have HDC:=hide hdc;have hj1:(j:Int)+1<((N+1:Nat):Int):=qg;have wm:=zT (x:=(j:Int)+1-1) (y:=(j:Int)) qg qg;have wk:=IntWalk.i64_in ((j:Int)+1+1) qg;have hs:=hb1 j qg;have hd:=HD.out j hjN;have hgj:=HG.out (j+1) qg;have htj:=HT.out j qg;have hmono:=JS HR.out (i:=j) (j:=i) qg hi
  have hat:t≤q.ti→kw D (j+1)=kw D i∧D j≤q.gr*(t-p.ti):=fun h=>by
   have:=WC HR.out hi hj (by rw[HTI.out,htq];exact h);rw[HTI.out,hgq,htp]at this;exact this.2
  have hgt:¬t≤q.ti→j+1+1≤i:=fun h=>by
   rcases Nat.lt_or_ge (j+1) i with h2|h2
   ·exact h2
   ·have:=JS HR.out h2 qg;rw[HTI.out,htq]at this;exact absurd this h
  rw[htp,HTI.out]at hmono;rw[htp]at htj;rw[hgq]at hgj;have hsum:kw D (j+1)=kw D j+D j:=rfl;rw[hsum]at hat;have HS1:=hide hsum;obtain⟨tj,htj2⟩:∃z,p.ti=z:=⟨_,rfl⟩;obtain⟨sj,hsj⟩:∃z,kw D j=z:=⟨_,rfl⟩;obtain⟨dj,hdj⟩:∃z,D j=z:=⟨_,rfl⟩;rw[htj2]at HTC hmono htj hat;rw[hsj]at hs hat HS1⊢;rw[hdj]at HDC hd hat HS1;clear hdc hq hp htq htp hgq hsum htj2 hsj hdj;have hg1:=hgj.2 qg;have igj:=hgj.1;by_cases hge:t≤q.ti
  ·obtain⟨he,hfar⟩:=hat hge;have HEQ:=hide he;have SUB:=fun W=>MS t tj ⟨qg,qg⟩ ⟨qg,qg⟩ W
   rw[pU (x:=t-tj) ⟨qg,qg⟩]at SUB;have MUL:=fun W=>FI q.gr (t-tj) W igj ⟨qg,qg⟩ qg qg
   have ADD:=fun W=>Vm sj dj ⟨qg,qg⟩ ⟨qg,qg⟩ W
   rw[pU (x:=sj+dj) ⟨qg,qg⟩]at ADD;have HDJ:=hide (And.intro hfar hd.2);clear he hfar hat hgt hs hd hgj htj hmono HS1;obtain⟨dt,hdt⟩:∃z,t-tj=z:=⟨_,rfl⟩;rw[hdt]at SUB MUL HDJ;obtain⟨G,hG⟩:∃z,q.gr*dt=z:=⟨_,rfl⟩;rw[hG]at MUL HDJ;clear hdt hG;go_upto_region 14 with(first|((with_reducible refine lX ?_);refine yL hM rfl (by first|exact rfl|(go_simp;done)) rfl (Zg rfl) HC.out (bQ rfl) ?_)|(refine qe ?_;clear hM;intro g W hM));obtain⟨g11,rfl⟩:=uC hM;refine qj ?_;refine qA [(g11,q.cells,74),(g3,[.slice (some ⟨bp,op_,none⟩) (N+1) c,Iv x,Iv y,.bool b],69)] hM qM ?_;(clear hM;intro W hM);refine rD 0 ?_;refine rD 1 ?_;refine rD 2 ?_;refine dP 3 (v:=Iv ((j:Int))) hM ?_ (hv:=by(intro W0;go_simp<;>first|assumption|rfl|exact zT qg qg));refine qj ?_;refine dP 4 (v:= .pointer (some ⟨bd,od+j,none⟩)) hM ?_ (hv:=by(intro W0;go_simp;first|done|omega|(intro h;exact absurd h qg)));refine qj ?_;refine jk 5 hM (HDC.out) ?_;refine qj ?_;refine rD 6 ?_;refine rD 7 ?_;refine rD 8 ?_;refine rD 9 ?_;refine rD 10 ?_;refine rD 11 ?_;refine dP 12 (v:=Iv ((j:Int))) hM ?_ (hv:=by(intro W0;go_simp<;>first|assumption|rfl|exact zT qg qg));refine qj ?_;refine dP 13 (v:= .pointer (some ⟨bp,op_+j*13,none⟩)) hM ?_ (hv:=by(intro W0;go_simp;first|done|omega|(intro h;exact absurd h qg)));refine qj ?_;refine rD 14 ?_;refine jk 15 hM (HTC.out) ?_;refine qj ?_;refine dC 16 (fun K' hK'=> ?_);go_wp2_with(first|refine qN (SUB _) ?_|(go_at_call 21;(with_reducible refine cx hM (MUL _) ?_);clear hM;rintro m W1 ⟨im,hm⟩ hM;have HMM:=hide hm;clear hm;have hmn:¬m<dj:=by have:=HMM.out;have:=HDJ.out;omega)|refine qN (ADD _) ?_);refine rK hK' hM ?_;clear hK' K';refine dC 17 (fun K' hK'=> ?_);go_wp2_with(first|refine qN (SUB _) ?_|(go_at_call 21;(with_reducible refine cx hM (MUL _) ?_);clear hM;rintro m W1 ⟨im,hm⟩ hM;have HMM:=hide hm;clear hm;have hmn:¬m<dj:=by have:=HMM.out;have:=HDJ.out;omega)|refine qN (ADD _) ?_);refine rK hK' hM ?_;clear hK' K';refine dP 18 (v:=Iv dj) hM ?_ (hv:=by(intro W0;go_simp<;>first|done|omega|(simp[hmn];done)|(intro h;exact absurd h hmn)));refine qj ?_;refine dC 19 (fun K' hK'=> ?_);go_wp2_with(first|refine qN (SUB _) ?_|(go_at_call 21;(with_reducible refine cx hM (MUL _) ?_);clear hM;rintro m W1 ⟨im,hm⟩ hM;have HMM:=hide hm;clear hm;have hmn:¬m<dj:=by have:=HMM.out;have:=HDJ.out;omega)|refine qN (ADD _) ?_);refine rK hK' hM ?_;clear hK' K';refine rD 20 ?_;refine rD 21 ?_;refine qp qM ?_;go_wp2_with fail
   all_goals(go_ret2;exact⟨by rw[←HEQ.out];rfl,hM.below⟩)
  ·have hn:=hgt hge;have ADD:=fun W=>Vm sj dj ⟨qg,qg⟩ ⟨qg,qg⟩ W
   rw[pU (x:=sj+dj) ⟨qg,qg⟩]at ADD;have hge2:¬t≤q.ti:=hge;clear hat hgt hs hd hgj htj hmono;go_wp2_with(first|refine qN (ADD _) ?_|((with_reducible refine lX ?_);refine yL hM rfl (by first|exact rfl|(go_simp;done)) rfl (Zg rfl) HC.out (bQ rfl) ?_)|((with_reducible refine lX ?_);refine zD hM rfl (by first|exact rfl|(go_simp;done)) rfl (ur rfl) HDC.out ?_)|(refine qe ?_;clear hM;intro g W hM))
   all_goals
    (go_roundw
     case rel=>exact⟨j+1,hn,by rw[HS1.out],by go_num,qC hM⟩
     case measure=>simp[intOf];omega)
theorem MN{x:Int}(h: -9223372036854775808≤x)(h2:x≤9223372036854775807):wrap64 x=x:=by unfold wrap64;omega
abbrev dD(f:Nat→Nd):Nat→Int:=fun k=>(f (k+1)).d
theorem Yy{ps:List Pa}{k:Nat}(h:k<ps.length):∃p,ps[k]? =some p∧Ji ps k=p.ti∧au ps k=p.gr:=by
 have e:ps[k]? =some ps[k]:=List.getElem?_eq_getElem h;exact⟨_,e,by unfold Ji;rw[getD_some e],by unfold au;rw[getD_some e]⟩
theorem Bw{u:Su}{f:Nat→Nd}{N:Nat}(hS:KJ u f)(hn:u.n=N+1):∀k,k<N→0≤dD f k∧dD f k≤8000000:=fun k hk=>by
 have:=(hS.nd (k+1) qg).2.1;exact this
theorem Wt{u:Su}{f:Nat→Nd}{fa:Nat→Int}{ps:List Pa}{N:Nat}(hS:KJ u f)(hn:u.n=N+1)(hl:ps.length=N+1)(h:Bv f fa ps):
 ∀k,k≤N→(0≤Ji ps k∧Ji ps k≤8000000*k)∧(k<N→Ji ps k≤Ji ps (k+1)∧Ji ps (k+1)≤Ji ps k+8000000∧dD f k≤au ps (k+1)*(Ji ps (k+1)-Ji ps k)):=by
 have h64:=hS.n.2
 have step:∀k,k<N→0≤Ji ps k→Ji ps k≤8000000*k→Ji ps k≤Ji ps (k+1)∧Ji ps (k+1)≤Ji ps k+8000000∧dD f k≤au ps (k+1)*(Ji ps (k+1)-Ji ps k):=fun k hk h0 h1=>by
  obtain⟨x,hx,e1,_⟩:=Yy (ps:=ps) (k:=k) qg;obtain⟨y,hy,e2,e3⟩:=Yy (ps:=ps) (k:=k+1) qg;obtain⟨_,q1,q2⟩:=h.2.2 k x y hx hy;obtain⟨d1,d2⟩:0≤(f (k+1)).d∧(f (k+1)).d≤8000000:=Bw hS hn k hk;obtain⟨t1,t2,t3⟩:=Wl d1 d2 q1;rw[e1]at h0 h1⊢;rw[MN qg qg]at q2;rw[e2,e3,q2];refine⟨qg,qg,?_⟩;rw[show x.ti+(qL 1 (f (k+1)).d 1 y.gr).1-x.ti=(qL 1 (f (k+1)).d 1 y.gr).1 by omega];exact t3
 have base:∀k,k≤N→0≤Ji ps k∧Ji ps k≤8000000*k:=by
  intro k
  induction k with
  |zero=>
   intro _;obtain⟨p,hp,e,_⟩:=Yy (ps:=ps) (k:=0) qg;rw[e,h.2.1 p hp];decide
  |succ k ih=>
   intro hk;obtain⟨i1,i2⟩:=ih qg;obtain⟨s1,s2,_⟩:=step k qg i1 i2;omega
 exact fun k hk=>⟨base k hk,fun hk2=>step k hk2 (base k hk).1 (base k hk).2⟩
theorem Wu{u:Su}{f:Nat→Nd}{fa:Nat→Int}{ps:List Pa}{N:Nat}(hS:KJ u f)(hn:u.n=N+1)(hl:ps.length=N+1)(h:Bv f fa ps):
 Km (Ji ps) (au ps) (dD f) N∧(∀k,k≤N→qz (au ps k)∧(1≤k→1≤au ps k))∧∀k,k≤N→0≤Ji ps k∧Ji ps k≤8000000*k:=by
 have hA:=Wt hS hn hl h;refine⟨⟨?_,fun i hi=>((hA i qg).2 hi).1,fun i hi=>(Bw hS hn i hi).1,fun i hi=>((hA i qg).2 hi).2.2⟩,fun k hk=> ?_,fun k hk=>(hA k hk).1⟩
 ·have:=(hA 0 (Nat.zero_le _)).1;omega
 ·obtain⟨y,hy,_,e⟩:=Yy (ps:=ps) (k:=k) qg;rw[e];refine⟨(h.1 y (List.mem_iff_getElem?.2 ⟨k,hy⟩)).2.2.2.1,fun h1=> ?_⟩;obtain⟨k,rfl⟩:∃m,k=m+1:=⟨k-1,qg⟩;obtain⟨x,hx,_,_⟩:=Yy (ps:=ps) (k:=k) qg;exact(h.2.2 k x y hx hy).2.1
theorem Rn{u:Su}{f:Nat→Nd}{fa:Nat→Int}{ps:List Pa}{k:Nat}{y:Pa}(hl:ps.length=u.n)(hW:rV (ZE f u.n) u.n fa)(h:Bv f fa ps)(hy:ps[k+1]? =some y):(f (k+1)).al≤y.al∧y.al≤(f (k+1)).ah:=by
 have hk:=(List.getElem?_eq_some_iff.1 hy).1;obtain⟨x,hx,_,_⟩:=Yy (ps:=ps) (k:=k) qg;have e:=(h.2.2 k x y hx hy).1;have w:=hW (k+1) qg
 have:pq (ZE f u.n) (k+1)=((f (k+1)).al,(f (k+1)).ah):=by
  unfold pq ZE lp;rw[List.getD_eq_getElem?_getD,List.getElem?_map,List.getElem?_range qg];rfl
 rw[this,←e]at w;exact w
theorem Uz{α:Type}{c:α→List Value}{s:Nat}(hc:∀x,(c x).length=s){x:α}:∀(l:List α) (k:Nat),l[k]? =some x→((l.flatMap c).drop (k*s)).take s=c x
 | [],k,h=>by simp at h
 |y::l,0,h=>by
  simp at h;subst h;rw[List.flatMap_cons,Nat.zero_mul,List.drop_zero,←hc y,List.take_left]
 |y::l,k+1,h=>by
  have:=Uz hc l k (by simpa using h);rw[List.flatMap_cons,show(k+1)*s=(c y).length+k*s by rw[hc,Nat.succ_mul,Nat.add_comm],←List.drop_drop,List.drop_left];exact this
theorem Zx{α:Type}{c:α→List Value}{s:Nat}(hc:∀x,(c x).length=s){cs:List Value}{l:List α}(h:cs.take (l.length*s)=l.flatMap c){k:Nat}{x:α}(hk:l[k]? =some x){j:Nat}{v:Value}(hv:(c x)[j]? =some v):cs[k*s+j]? =some v:=by
 have hj:j<s:=by rw[←hc x];exact(List.getElem?_eq_some_iff.1 hv).1
 have hkl:=(List.getElem?_eq_some_iff.1 hk).1
 have hlt:k*s+j<l.length*s:=by
  have:(k+1)*s≤l.length*s:=Nat.mul_le_mul_right s hkl;rw[Nat.succ_mul]at this;omega
 rw[←Uz hc l k hk,←h,List.getElem?_take,if_pos hj,List.getElem?_drop,List.getElem?_take,if_pos hlt]at hv;exact hv
abbrev nd0:Nd:=⟨0,0,0,0,0,0,0⟩
abbrev nF(ns:List Nd):Nat→Nd:=fun k=>ns.getD k nd0
theorem aa{w W:World}{L:List qZ}{g:Nat}{cs:List Value}{t:TypeId}{ns:List Nd}(hM:qF w W L)(hl:Lk L g cs t)(h:cs.take (ns.length*7)=ns.flatMap Nd.cells)(hok:∀x∈ns,x.ok):Jc W (some ⟨g,0,none⟩) ns.length (nF ns):=fun k hk=>by
 have e:ns[k]? =some ns[k]:=List.getElem?_eq_getElem hk;have e2:nF ns k=ns[k]:=by unfold nF;rw[List.getD_eq_getElem?_getD,e];rfl
 rw[e2];refine⟨g,0,rfl,fun j v hv=> ?_,hok _ (List.getElem_mem hk)⟩;rw[Nat.zero_add,hM.cell hl];exact Zx (c:=Nd.cells) (s:=7) (fun _=>rfl) h e hv
theorem RM{w W:World}{L:List qZ}{g:Nat}{cs:List Value}{t:TypeId}{ps:List Pa}(hM:qF w W L)(hl:Lk L g cs t)(h:cs.take (ps.length*13)=ps.flatMap Pa.cells):Ln W (some ⟨g,0,none⟩) ps:=fun k p hk=>by
 refine⟨g,0,rfl,fun j v hv=> ?_⟩;rw[Nat.zero_add,hM.cell hl];exact Zx (c:=Pa.cells) (s:=13) (fun _=>rfl) h hk hv
theorem UA:∀ds:List Int,ds.map (fun z=>Value.int .i64 z)=ds.flatMap (fun z=>[Value.int .i64 z])
 | []=>rfl
 |a::l=>by rw[List.map_cons,List.flatMap_cons,UA l];rfl
theorem Pe{w W:World}{L:List qZ}{g:Nat}{cs:List Value}{t:TypeId}{ds:List Int}{N:Nat}{D:Nat→Int}(hM:qF w W L)(hl:Lk L g cs t)(h:cs.take ds.length=ds.map (fun z=>Value.int .i64 z))(hN:ds.length=N)(hD:∀k z,ds[k]? =some z→z=D k∧qz z):jT W (some ⟨g,0,none⟩) N D:=fun k hk=>by
 have e:ds[k]? =some ds[k]:=List.getElem?_eq_getElem qg;obtain⟨e1,e2⟩:=hD k _ e;refine⟨g,0,rfl,?_,by rw[←e1];exact e2⟩;rw[Nat.zero_add,hM.cell hl];have:=Zx (s:=1) (c:=fun z:Int=>[Value.int .i64 z]) (fun _=>rfl) (l:=ds) (cs:=cs) (by rw[Nat.mul_one,h];exact UA ds) e (j:=0) rfl;rw[Nat.mul_one,Nat.add_zero,e1]at this;exact this
theorem Pg{W:World}{s:Su}{f0:Nat→Nd}{S:Option Addr}{n c:Nat}{f:Nat→Nd}(h:xF W s f0)(hn:Jc W S n f)(hl:n≤maxLen):xF W {s with S:=S,n:=n,c:=c} f:=
 ⟨hn,hl,h.pf,h.gd,h.f0,h.f1,h.f2,h.f3,h.lev,h.cas,h.mac,h.acc,h.dec,h.lal,h.lsp⟩
abbrev Gn.nd(g:Gn):Nd:=⟨g.x,g.y,g.d,g.al,g.ah,0,1000⟩
theorem qq7:yw Tryz.prog 57 7 56:=by unfold yw;kernel_rfl
theorem qq3{A B R new:List Value}{off:Nat}(h:off+new.length≤B.length):jg (A++(B++R)) (A.length+off) new=A++(jg B off new++R):=by
 apply List.ext_getElem?;intro i;rw[xV (by simp only[List.length_append];omega)];rcases Nat.lt_or_ge i A.length with ha|ha
 ·rw[if_pos qg,List.getElem?_append_left ha,List.getElem?_append_left ha]
 obtain⟨k,rfl⟩:∃k,i=A.length+k:=⟨i-A.length,qg⟩;have e:∀X:List Value,(A++X)[A.length+k]? =X[k]? :=fun X=>by rw[List.getElem?_append_right qg,Nat.add_sub_cancel_left]
 rw[e,e];rcases Nat.lt_or_ge k B.length with hb|hb
 ·rw[List.getElem?_append_left hb,List.getElem?_append_left (by rw[gM h];exact hb),xV h];by_cases h1:k<off
  ·rw[if_pos h1,if_pos qg]
  ·rw[if_neg h1,if_neg qg];by_cases h2:k<off+new.length
   ·rw[if_pos h2,if_pos qg];congr 1;omega
   ·rw[if_neg h2,if_neg qg]
 ·rw[if_neg qg,if_neg qg,List.getElem?_append_right hb,List.getElem?_append_right (by rw[gM h];exact hb),gM h]
theorem qq2{α:Type}{c:α→List Value}{s:Nat}(hc:∀x,(c x).length=s):∀l:List α,(l.flatMap c).length=l.length*s
 | []=>by simp
 |x::l=>by rw[List.flatMap_cons,List.length_append,hc,qq2 hc l,List.length_cons,Nat.succ_mul,Nat.add_comm]
theorem qqa{α:Type}{c:α→List Value}{s:Nat}(hc:∀x,(c x).length=s){e:TypeId}{l:List α}{x y:α}{g cap n:Nat}{cur:List Value}(h:bZ e s (.slice (some ⟨g,0,none⟩) n cap) n ((l++[x]).flatMap c) [(g,cur,e)]){off k:Nat}{new:List Value}(hk:k=l.length*s+off)(hn:off+new.length≤s)(hy:jg (c x) off new=c y):
 bZ e s (.slice (some ⟨g,0,none⟩) n cap) n ((l++[y]).flatMap c) [(g,jg cur k new,e)]:=by
 subst hk
 cases h with
 |row h1 h2 h3 h4 h5=>
  have q:n*s=l.length*s+s:=by
   rw[←h5,List.flatMap_append,List.length_append,qq2 hc,qq2 hc,List.length_singleton,Nat.one_mul]
  have hcap:n*s≤cap*s:=Nat.mul_le_mul_right s h1
  have e1:cur=l.flatMap c++(c x++cur.drop (n*s)):=by
   have:=List.take_append_drop (n*s) cur;rw[h4,List.flatMap_append,List.append_assoc]at this;simpa using this.symm
  have hl:=qq2 hc l
  have hs:jg cur (l.length*s+off) new=l.flatMap c++(c y++cur.drop (n*s)):=by
   rw[←hl]
   conv=>lhs;rw[e1]
   rw[qq3 (by rw[hc];exact hn),hy]
  have hf:(l++[y]).flatMap c=l.flatMap c++c y:=jL;refine .row h1 h2 (by rw[gM (by rw[h3];omega),h3]) ?_ ?_
  ·rw[hs,hf,←List.append_assoc,List.take_left' (by rw[List.length_append,hl,hc,q])]
  ·rw[hf,List.length_append,hl,hc,q]
theorem qq8{e:TypeId}{s n:Nat}{V:Value}{xs:List Value}{B:List qZ}(h:bZ e s V n xs B)(h0:0<n):∃g cap cur,V= .slice (some ⟨g,0,none⟩) n cap∧B=[(g,cur,e)]∧n*s≤cur.length∧cur.take (n*s)=xs:=by
 cases h with
 |nil=>omega
 | @row g cap _ cur _ h1 h2 h3 h4 h5=>exact⟨g,cap,cur,rfl,rfl,by rw[h3];exact Nat.mul_le_mul_right s h1,h4⟩
theorem qq6{α:Type}{c:α→List Value}{s:Nat}(hc:∀x,(c x).length=s){cs:List Value}{l:List α}(h:cs.take (l.length*s)=l.flatMap c){k:Nat}{x:α}(hk:l[k]? =some x):(cs.drop (k*s)).take s=c x:=by
 have hkl:=(List.getElem?_eq_some_iff.1 hk).1;have h1:=Uz hc l k hk
 have h2:k*s+s≤l.length*s:=by
  have:(k+1)*s≤l.length*s:=Nat.mul_le_mul_right s hkl
  rwa[Nat.succ_mul]at this
 rw[←h,List.drop_take,List.take_take,Nat.min_eq_left qg]at h1;exact h1
theorem qqz(b:qZ)(B:List qZ):(b::B).Perm (B++[b]):=List.perm_append_comm (l₁:=[b])
theorem qz2(A bDi:List qZ)(b:qZ):(A++(bDi++[b])).Perm (b::(A++bDi)):=by
 rw[←List.append_assoc];exact(qqz _ _).symm
section
variable{Q:Exit→Act→World→Prop}{a:Act}{w W:World}{L:List qZ}{o:Oper}{X:Act→World→Prop}
theorem oSP{x y:Operand}{cs:List Value}{t:TypeId}{p q:Int}{g off:Nat}{L':List qZ}(hM:qF w W L)(hb:off+2≤cs.length)(h:∀W',qF w W' L'→X (a.put o.dst undef) W')(ho:o.op= .store 26 x y:=by rfl)(hx:a.eval x= .pointer (some ⟨g,off,none⟩):=by rfl)(hy:a.eval y= .agg #[Iv p,Iv q]:=by rfl)
 (hl:Lk L g cs t:=by((repeat constructor)<;>fail)) (hu:Up L g cs (jg cs off [Iv p,Iv q]) t L':=by((repeat constructor)<;>fail)):o.wp Tryz.prog a W X Q:=by
 have hr:=kS (P:=Tryz.prog) (ty:=26) (off:=off) (v:=a.eval y) hM hu (by rw[yA W (bQ (ty:=26) (n:=2) rfl),hy];rfl) (by rw[hy];exact hb) (by rw[hy];intro x hx;simp[Value.cells]at hx;rcases hx with rfl|rfl<;>rfl) (by rw[hy];simp[Value.cells]);unfold Oper.wp execOp;simp only[ho,hx,Instr.storeAt,Instr.sureAddr,Sem.run_bind,Sem.run_pure,Result.andThen_ok,hr];exact h _ (Vf hM hu)
end
theorem qqw{cs C:List Value}{o s:Nat}(h:(cs.drop o).take s=C)(i m:Nat)(hi:i+m≤s):(cs.drop (o+i)).take m=(C.drop i).take m:=by
 rw[←h,List.drop_take,List.take_take,List.drop_drop,Nat.min_eq_left qg]
theorem qz1:∀{cs:List Value} {off n:Nat} {C:List Value},(cs.drop off).take (n+1)=C→C.length=n+1→Part cs off (n+1) C
 | [],off,n,C,h,hl=>by
   simp at h;subst h;cases hl
 |c::cs,0,0,C,h,hl=>by
  simp at h;subst h;exact .take .nil
 |c::cs,0,n+1,C,h,hl=>by
  rw[List.drop_zero,List.take_succ_cons]at h;subst h;exact .take (qz1 (off:=0) rfl (by simpa using hl))
 |c::cs,off+1,n,C,h,hl=> .drop (qz1 (by simpa using h) hl)
abbrev nds(n0:Nd)(gs:List Gn):List Nd:=n0::gs.map Gn.nd
theorem qqe(n0:Nd)(gs:List Gn)(g:Gn):nds n0 (gs++[g])=nds n0 gs++[g.nd]:=by simp[nds]
theorem qqb(n0:Nd)(gs:List Gn):(nds n0 gs).length=gs.length+1:=by simp[nds]
theorem qqc{n0:Nd}{gs:List Gn}{k:Nat}{g:Gn}(h:gs[k]? =some g):(nds n0 gs)[k+1]? =some g.nd:=by simp[nds,h]
def NrQ(n0:Nd)(gNd cNd nNd:Nat)(cn:List Value)(gs:List Gn):Prop:=nNd=gs.length+1∧bZ 57 7 (.slice (some ⟨gNd,0,none⟩) nNd cNd) (nds n0 gs).length ((nds n0 gs).flatMap Nd.cells) [(gNd,cn,57)]
def DrQ(vDi:Value)(gs:List Gn)(bDi:List qZ):Prop:=bZ 2 1 vDi (gs.map Gn.d).length ((gs.map Gn.d).flatMap inc) bDi
theorem qqd{n0:Nd}{gNd cNd nNd:Nat}{cn:List Value}{gs:List Gn}(h:NrQ n0 gNd cNd nNd cn gs):nNd*7≤cn.length∧cn.take (nNd*7)=(nds n0 gs).flatMap Nd.cells∧cNd≤maxLen∧nNd≤cNd:=by
 obtain⟨h0,h⟩:=h;have e:=qqb n0 gs;rw[←h0]at e
 cases h with
 |row h1 h2 h3 h4 h5=>
  rw[e]at*;exact⟨by rw[h3];exact Nat.mul_le_mul_right 7 h1,h4,h2,h1⟩
theorem qqh{n0:Nd}{gs:List Gn}{g:Gn}{V:Value}{B:List qZ}(h:bZ 57 7 V (nds n0 gs++[g.nd]).length ((nds n0 gs++[g.nd]).flatMap Nd.cells) B):∃gNd cNd cn,V= .slice (some ⟨gNd,0,none⟩) (gs.length+2) cNd∧B=[(gNd,cn,57)]∧NrQ n0 gNd cNd (gs.length+2) cn (gs++[g]):=by
 rw[←qqe]at h;have e:(nds n0 (gs++[g])).length=gs.length+2:=by rw[qqb];simp
 obtain⟨gNd,cNd,cn,rfl,rfl,-⟩:=qq8 h qg;rw[e]at h⊢;exact⟨gNd,cNd,cn,rfl,rfl,by simp,by rw[e];exact h⟩
theorem qqm{n0:Nd}{gNd cNd nNd:Nat}{cn:List Value}{gs:List Gn}{g:Gn}(h:NrQ n0 gNd cNd nNd cn (gs++[g])){k:Nat}(hk:k+1=nNd)(x y d:Int):NrQ n0 gNd cNd nNd (jg (jg cn (k*7) [Iv x,Iv y]) (k*7+2) [Iv d]) (gs++[⟨x,y,d,g.n,g.al,g.ah⟩]):=by
 obtain⟨h0,h⟩:=h;have e:∀g:Gn,(nds n0 (gs++[g])).length=nNd:=fun g=>by rw[qqb,h0];simp
 have e2:(nds n0 gs).length=k:=by rw[qqb];simp at h0;omega
 refine⟨by rw[h0];simp,?_⟩;rw[e,qqe]at h⊢;have h1:=qqa (c:=Nd.cells) (s:=7) (fun _=>rfl) (y:=⟨x,y,g.d,g.al,g.ah,0,1000⟩) h (off:=0) (k:=k*7) (new:=[Iv x,Iv y]) (by rw[e2];rfl) jL rfl;exact qqa (c:=Nd.cells) (s:=7) (fun _=>rfl) h1 (off:=2) (k:=k*7+2) (new:=[Iv d]) (by rw[e2]) jL rfl
theorem qqi{n0:Nd}{gNd cNd nNd:Nat}{cn:List Value}{gs:List Gn}(h:NrQ n0 gNd cNd nNd cn gs){k:Nat}{g:Gn}(hg:gs[k]? =some g){j:Nat}{v:Value}(hv:g.nd.cells[j]? =some v):cn[(k+1)*7+j]? =some v:=by
 have h2:=(qqd h).2.1;rw[h.1,←qqb n0 gs]at h2;exact Zx (c:=Nd.cells) (s:=7) (fun _=>rfl) h2 (qqc hg) hv
theorem qqu{n0:Nd}{gNd cNd nNd:Nat}{cn:List Value}{gs:List Gn}(h:NrQ n0 gNd cNd nNd cn gs){k:Nat}{g:Gn}(hg:gs[k]? =some g):(cn.drop ((k+1)*7)).take 2=[Iv g.x,Iv g.y]:=by
 have h2:=(qqd h).2.1;rw[h.1,←qqb n0 gs]at h2;have h3:=qqw (qq6 (c:=Nd.cells) (s:=7) (fun _=>rfl) h2 (qqc hg)) 0 2 qG;rw[Nat.add_zero]at h3;rw[h3];rfl
theorem qqn{n0:Nd}{gNd cNd nNd:Nat}{cn:List Value}{gs:List Gn}(h:NrQ n0 gNd cNd nNd cn gs):Hid (bZ 57 7 (.slice (some ⟨gNd,0,none⟩) nNd cNd) (nds n0 gs).length ((nds n0 gs).flatMap Nd.cells) [(gNd,cn,57)]):=hide h.2
theorem qqo{n0:Nd}{gNd:Nat}:NrQ n0 gNd 1 1 n0.cells []:=⟨rfl,.row (Nat.le_refl _) qG rfl rfl rfl⟩
theorem qqf{n0:Nd}{gNd cNd nNd j:Nat}{cn:List Value}{gs:List Gn}{P:Int→Prop}{els:List El}{w W:World}{L:List qZ}{t:TypeId}(hM:qF w W L)(h:NrQ n0 gNd cNd nNd cn gs)(h0:n0.ok)(hR:RK P els j gs)(hj:j≤500)(hl:Lk L gNd cn t):Jc W (some ⟨gNd,0,none⟩) nNd (nF (nds n0 gs)):=by
 have h2:=(qqd h).2.1;have e:=h.1;rw[←qqb n0 gs]at e;rw[e]at h2⊢;refine aa hM hl h2 fun x hx=> ?_
 rcases List.mem_cons.1 hx with rfl|hx
 ·exact h0
 ·obtain⟨g,hg,rfl⟩:=List.mem_map.1 hx;obtain⟨⟨b1,b2⟩,⟨b3,b4,b5,b6⟩,-,b7,b8⟩:=hR.bd g hg;refine⟨⟨?_,?_⟩,⟨?_,?_⟩,⟨?_,?_⟩,b7,b8,(show qz 0 from⟨qG,qG⟩),(show qz 1000 from⟨qG,qG⟩)⟩<;>(dsimp only;omega)
theorem qql{n0:Nd}{gs:List Gn}{k:Nat}{g:Gn}(h:gs[k]? =some g):nF (nds n0 gs) (k+1)=g.nd:=by
 unfold nF;rw[List.getD_eq_getElem?_getD,qqc h];rfl
theorem qqv{n0:Nd}{gs:List Gn}{k:Nat}(h:k<gs.length):dD (nF (nds n0 gs)) k=gD gs k:=by
 have e:gs[k]? =some gs[k]:=List.getElem?_eq_getElem h;unfold dD gD;rw[qql e,List.getD_eq_getElem?_getD,e];rfl
theorem qqp{n0:Nd}{gs:List Gn}{k:Nat}(h:k≤gs.length):kw (dD (nF (nds n0 gs))) k=kw (gD gs) k:=Jd k fun j hj=>qqv qg
theorem qqq:DrQ (.slice none 0 0) [] []:= .nil
theorem qqj{gs:List Gn}{g:Gn}{V:Value}{B:List qZ}(h:bZ 2 1 V (gs.map Gn.d++[g.d]).length ((gs.map Gn.d++[g.d]).flatMap inc) B):DrQ V (gs++[g]) B:=by
 unfold DrQ;rw[List.map_append];exact h
theorem qqr{gs:List Gn}{V:Value}{B:List qZ}(h:DrQ V gs B)(h0:0<gs.length):∃gD cD cd,V= .slice (some ⟨gD,0,none⟩) gs.length cD∧B=[(gD,cd,2)]∧gs.length≤cd.length∧cd.take gs.length=(gs.map Gn.d).map (fun z=>Value.int .i64 z):=by
 unfold DrQ at h;have e:(gs.map Gn.d).length=gs.length:=List.length_map ..;obtain⟨gD,cD,cd,rfl,rfl,h2,h3⟩:=qq8 h qg;rw[e,Nat.mul_one]at h2 h3;rw[e];exact⟨gD,cD,cd,rfl,rfl,h2,by rw[h3,UA]⟩
theorem qqs{gs:List Gn}{g:Gn}{gD cD n:Nat}{cd:List Value}(h:DrQ (.slice (some ⟨gD,0,none⟩) n cD) (gs++[g]) [(gD,cd,2)]){k:Nat}(hk:k=gs.length)(hn:n=gs.length+1)(q:Gn):DrQ (.slice (some ⟨gD,0,none⟩) n cD) (gs++[q]) [(gD,jg cd k [Iv q.d],2)]:=by
 unfold DrQ at h⊢;have e:∀g:Gn,((gs++[g]).map Gn.d).length=n:=fun g=>by rw[List.length_map,hn];simp
 rw[e,List.map_append]at h⊢;exact qqa (c:=inc) (s:=1) (fun _=>rfl) (x:=g.d) (y:=q.d) h (off:=0) (by rw[List.length_map,Nat.mul_one];exact hk) jL rfl
theorem qqk{w W:World}{L:List qZ}{n0:Nd}{gs:List Gn}{gD:Nat}{cd:List Value}{t:TypeId}{P:Int→Prop}{els:List El}{j:Nat}(hM:qF w W L)(hl:Lk L gD cd t)(h:cd.take gs.length=(gs.map Gn.d).map (fun z=>Value.int .i64 z))(hR:RK P els j gs)(hj:j≤500):jT W (some ⟨gD,0,none⟩) gs.length (dD (nF (nds n0 gs))):=by
 refine Pe hM hl (ds:=gs.map Gn.d) (by rw[List.length_map];exact h) (List.length_map ..) fun k z hz=> ?_
 rw[List.getElem?_map]at hz;obtain⟨g,hg,rfl⟩:=Option.map_eq_some_iff.1 hz;have b:=(hR.bd g (List.mem_of_getElem? hg)).1;refine⟨?_,⟨qg,qg⟩⟩
 show g.d=(nF (nds n0 gs) (k+1)).d
 rw[qql hg]
abbrev gup(g:Gn)(x:El):Gn:=⟨x.bx,x.b_y,g.d+x.L,g.n,g.al,g.ah⟩
theorem qqt{P:Int→Prop}{els:List El}{j:Nat}{gs:List Gn}{g:Gn}{x:El}(h:RK P els j (gs++[gup g x])):0≤g.d+x.L∧g.d+x.L≤60000000*j:=(h.bd _ (List.mem_append.2 (Or.inr (List.mem_singleton.2 rfl)))).1
theorem qqg{P:Int→Prop}{els:List El}{k:Nat}{gs:List Gn}{x:El}(h:RK P els k gs)(hx:els[k]? =some x)(hR:Lp P x){al ah n:Int}(hn:x.n=n)(ha:qz al)(hb:qz ah):RK P els (k+1) (gs++[gup ⟨0,0,0,n,al,ah⟩ x]):=by
 subst hn;have:=Rs h hx hR ha hb;unfold gup;rw[Int.zero_add];exact this
section
variable{ops:Array Oper}{Q:Exit→Act→World→Prop}{a:Act}{w W:World}{L:List qZ}{rest:List Oper}{o:Oper}
theorem qz5{cur:List Value}{t:TypeId}{g k:Nat}{e:Pa}{x:Operand}(hM:qF w W L)(hgd:o.guard=none)(ho:o.op= .load 74 x)(hx:a.eval x= .pointer (some ⟨g,k*13,none⟩))(hl:Lk L g cur t)(hC:(cur.drop (k*13)).take 13=e.cells)(h:wpList Tryz.prog ops Q rest (a.put o.dst (.agg e.cells.toArray)) W):wpList Tryz.prog ops Q (o::rest) a W:=
 dg hM hgd ho hx hl (Zg rfl) (yA W (bQ rfl)) hC rfl h
theorem qz0{u:Su}{x y:Operand}{t:TypeId}{S:Option Addr}{n c g:Nat}{L':List qZ}(hM:qF w W L)(hg:o.guard=none)(ho:o.op= .store 31 x y)(hx:a.eval x= .pointer (some ⟨g,0,none⟩))(hy:a.eval y= .slice S n c)
 (h:∀W',qF w W' L'→wpList Tryz.prog ops Q rest (a.put o.dst undef) W') (hl:Lk L g u.cells t:=by((repeat constructor)<;>fail)) (hu:Up L g u.cells (Su.cells {u with S:=S,n:=n,c:=c}) t L':=by((repeat constructor)<;>fail)):wpList Tryz.prog ops Q (o::rest) a W:=
 BZ hM hg ho hx (new:=[.slice S n c]) (by rw[hy];exact .slice) hl jL (show Up L g u.cells (jg u.cells 0 [.slice S n c]) t L' from hu) Tryz.sizeOf31 rfl (by intro x hx;rcases List.mem_singleton.1 hx with rfl;rfl) h
end
end Go.Proofs.YtiegohjobhehcaaGreatDoor
