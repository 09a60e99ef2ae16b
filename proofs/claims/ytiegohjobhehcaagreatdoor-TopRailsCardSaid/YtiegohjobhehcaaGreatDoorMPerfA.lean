/-
  The shape of an aircraft's tables; the value of a list at a place.
-/
import Derived.Test.YtiegohjobhehcaaGreatDoorMPrRow
set_option maxRecDepth 100000
set_option maxHeartbeats 16000000
namespace Go.Proofs.YtiegohjobhehcaaGreatDoor
open Go.RowKit
set_option linter.unusedVariables false
set_option linter.unusedSimpArgs false
structure Pf where
 nm:ByteArray
 em:Int
 mf:Int
 al:Sl
 ms:Sl
 cl:Sl
 cf:Sl
 cr:Sl
 de:Sl
 id:Sl
 xs:Sl
 ns:Sl
 rf:Int
 ex:Int
 ce:Int
abbrev Pf.cells(p:Pf):List Value:=[.string p.nm,Iv p.em,Iv p.mf,p.al.v,p.ms.v,p.cl.v,p.cf.v,p.cr.v,p.de.v,p.id.v,p.xs.v,p.ns.v,Iv p.rf,Iv p.ex,Iv p.ce]
def fS(w:World)(x:Sl):Prop:=x.n≤maxLen∧∃f,jT w x.S x.n f
def DZ(w:World)(x:Sl):Prop:=x.n≤maxLen∧∃r,Qs w x.S x.n r
theorem gh{w W:World}{L:List qZ}(hM:qF w W L){x:Sl}(h:fS w x):fS W x:=⟨h.1,h.2.elim fun f hf=>⟨f,zW hM hf⟩⟩
theorem Zk{w W:World}{L:List qZ}(hM:qF w W L){x:Sl}(h:DZ w x):DZ W x:=⟨h.1,h.2.elim fun f hf=>⟨f,yP hM hf⟩⟩
structure Qx(w:World)(p:Pf):Prop where
 nm:p.nm.size≤maxLen
 em:qz p.em
 mf:qz p.mf
 rf:qz p.rf
 ex:qz p.ex
 ce:qz p.ce
 al:fS w p.al
 ms:fS w p.ms
 cl:DZ w p.cl
 cf:DZ w p.cf
 cr:DZ w p.cr
 de:fS w p.de
 id:fS w p.id
 xs:fS w p.xs
 ns:fS w p.ns
theorem jR{w W:World}{L:List qZ}(hM:qF w W L){p:Pf}(h:Qx w p):Qx W p:=
 ⟨h.nm,h.em,h.mf,h.rf,h.ex,h.ce,gh hM h.al,gh hM h.ms,Zk hM h.cl,Zk hM h.cf,Zk hM h.cr,gh hM h.de,gh hM h.id,gh hM h.xs,gh hM h.ns⟩
def JA(w:World)(x:Sl)(a m:Nat):Prop:=x.n=a∧∀r,Qs w x.S x.n r→∀k,k<a→(r k).n=m
theorem VT(p:Pf)(S:Option Addr)(n c:Nat)(r:Nat→Sl)(w:World)(hn:n≤maxLen)(ha:p.al.n≤maxLen)(hb:p.ms.n≤maxLen)(h:Hid (Qs w S n r)):
 Calls Tryz.prog 179 #[.agg p.cells.toArray,.slice S n c] w (bR (fun b:Bool=> .bool b) (fun b=>Hid (b=true→n=p.al.n∧∀k,k<n→(r k).n=p.ms.n)) w):=by
 have hM:=qo w;unfold maxLen at hn ha hb;obtain⟨nm,em,mf,⟨aS,an,ac⟩,⟨mS,mn,mc⟩,cl,cf,cr,de,id,xs,ns,rf,ex,ce⟩:=p;dsimp only at ha hb⊢;go_enter Tryz.func179,Tryz.ntmps179;go_upto_region 1 with(first|(refine qe ?_;clear hM;intro g W hM));obtain⟨gp,rfl⟩:=uC hM;refine qj ?_;go_wp2_with(first|refine zC ?_);go_loopw [9] (fun s wx=>∃k:Nat,k≤n∧s=Iv k∧Hid (∀j,j<k→(r j).n=mn)∧qF w wx [(gp,Pf.cells ⟨nm,em,mf,⟨aS,an,ac⟩,⟨mS,mn,mc⟩,cl,cf,cr,de,id,xs,ns,rf,ex,ce⟩,35)]) (fun s _=>n-(intOf s).toNat)
 case atStart=>exact⟨0,by omega,rfl,hide (fun j hj=>by omega),hM⟩
 case round=>
  clear hM;obtain⟨k,hk,rfl,HK,hM⟩:=hrel;by_cases hlt:k<n
  ·obtain⟨b,o,rfl,hc,hl,fk,hi⟩:=h.out k hlt;obtain⟨Sk,nk,ck,hr⟩:∃S n c,r k=⟨S,n,c⟩:=⟨_,_,_,rfl⟩;rw[hr]at hc hl;dsimp only[Sl.v]at hc hl;have HC:=hide hc;have HR:=hide hr;clear hc hi hr;unfold maxLen at hl;by_cases hq:nk=mn
   ·have HK2:=hide (show∀j,j<k+1→(r j).n=mn from fun j hj=>by
     rcases Nat.lt_or_ge j k with h1|h1
     ·exact HK.out j h1
     ·obtain rfl:j=k:=qg;rw[HR.out]
      exact hq)
    obtain rfl:=hq.symm;go_wp2_with(first|((with_reducible refine lX ?_);refine zD hM rfl (by first|exact rfl|(go_simp;done)) rfl (ur rfl) (HC.out) ?_)|refine zC ?_)
    all_goals
     go_roundw
     case rel=>exact⟨k+1,by omega,by go_num,HK2,hM⟩
     case measure=>simp[intOf];omega
   ·have b1:((nk:Int) !=(mn:Int))=true:=by simp;omega
    have b2:(nk !=mn)=true:=by simp;omega
    go_wp2_with(first|((with_reducible refine lX ?_);refine zD hM rfl (by first|exact rfl|(go_simp;done)) rfl (ur rfl) (HC.out) ?_)|refine zC ?_)
    all_goals(go_ret;exact⟨_,rfl,hide jL,hM.below⟩)
  ·by_cases hq:n=an
   ·have HQ:=hide hq;have b1:((n:Int)==(an:Int))=true:=by simp;omega
    have b2:(n==an)=true:=by simp;omega
    clear hq;go_wp2_with(first|refine zC ?_)
    all_goals(go_ret;exact⟨_,rfl,hide (fun _=>⟨HQ.out,fun j hj=>HK.out j qg⟩),hM.below⟩)
   ·have b1:((n:Int)==(an:Int))=false:=by simp;omega
    have b2:(n==an)=false:=by simp;omega
    go_wp2_with(first|refine zC ?_)
    all_goals(go_ret;exact⟨_,rfl,hide (by simp[*]),hM.below⟩)
theorem lq(p:Pf)(m:Nat)(fa:Nat→Int)(r:Nat→Sl)(w:World)(hn:p.al.n≤1000)(hm:m≤1000)(he:p.cl.n=p.al.n)(ha:Hid (jT w p.al.S p.al.n fa))(h:Hid (Qs w p.cl.S p.cl.n r))(hr:∀k,k<p.cl.n→(r k).n=m):
 Calls Tryz.prog 184 #[.agg p.cells.toArray] w (JK w):=by
 have hM:=qo w;obtain⟨nm,em,mf,⟨aS,n,ac⟩,ms,⟨cS,cn,cc⟩,cf,cr,de,id,xs,ns,rf,ex,ce⟩:=p;dsimp only at hn he ha h hr⊢;obtain rfl:=he.symm;go_enter Tryz.func184,Tryz.ntmps184;go_upto_region 1 with(first|(refine qe ?_;clear hM;intro g W hM));obtain⟨gp,rfl⟩:=uC hM;dsimp only[Pf.cells,Sl.v]at hM;refine qj ?_;go_wp2_with(first|refine zC ?_);go_loopw [3] (fun s wx=>∃k:Nat,1≤k∧k≤n+1∧s=Iv k∧qF w wx [(gp,[.string nm,Iv em,Iv mf,.slice aS n ac,ms.v,.slice cS n cc,cf.v,cr.v,de.v,id.v,xs.v,ns.v,Iv rf,Iv ex,Iv ce],35)]) (fun s _=>n-(intOf s).toNat)
 case atStart=>exact⟨1,by omega,by omega,rfl,hM⟩
 case round=>
  clear hM;obtain⟨k,hk1,hk,rfl,hM⟩:=hrel;by_cases hlt:k<n
  ·obtain⟨b,o,rfl,hc,hl,fk,hi⟩:=h.out k hlt;have hrk:=hr k hlt;generalize hrr:r k=rk at hc hl hi hrk;obtain⟨Sk,nk,ck⟩:=rk;dsimp only[Sl.v]at hrk hi hc;obtain rfl:=hrk.symm;have HC:=hide hc;have HI:=hide hi;have HR:=hide hrr;clear hc hi hl hrr;obtain⟨i,hi⟩:∃i,k=i+1:=⟨k-1,qg⟩;obtain⟨bb,oo,e,hc2,hl2,fi,hi2⟩:=h.out i qg;injection e with e;injection e with e1 e2;subst e1 e2;have hri:=hr i qg;generalize hrr:r i=ri at hc2 hl2 hi2 hri;obtain⟨Si,ni,ci⟩:=ri;dsimp only[Sl.v]at hri hi2 hc2;obtain rfl:=hri.symm;have iw:IntKind.i64.wrap ((k:Int)-1)=(i:Int):=by rw[show(k:Int)-1=i by omega];exact IntWalk.i64_in _ qg
   have hin:i<n:=qg;obtain⟨ba,oa,rfl,ha1,_⟩:=ha.out k hlt;have ha2:=(zE ha.out hin).1;have HA1:=hide ha1;have HA2:=hide ha2;have HB:=hide hc2;have HJ:=hide hi2;have HK:=hide hi;clear hc2 hi2 hl2 hi hrr ha1 ha2;go_wp2_with(first|((with_reducible refine lX ?_);refine zD hM rfl (by first|exact rfl|(go_simp;done)) rfl (ur rfl) (HC.out) ?_)|refine zC ?_);go_loopw [18] (fun s wx=>∃j:Nat,j≤m∧s=Iv j∧qF w wx [(gp,[.string nm,Iv em,Iv mf,.slice (some ⟨ba,oa,none⟩) n ac,ms.v,.slice (some ⟨b,o,none⟩) n cc,cf.v,cr.v,de.v,id.v,xs.v,ns.v,Iv rf,Iv ex,Iv ce],35)]) (fun s _=>m-(intOf s).toNat)
   case atStart=>exact⟨0,by omega,rfl,hM⟩
   case round=>
    clear hM;obtain⟨j,hj0,rfl,hM⟩:=hrel;by_cases hj:j<m
    ·obtain⟨b2,o2,rfl,hd,hd2⟩:=HI.out j hj;obtain⟨b3,o3,rfl,he,he2⟩:=HJ.out j hj;have c1:=hM.old hd;have c2:=hM.old HB.out;have c3:=hM.old he;have c4:=hM.old HC.out;have c5:=hM.old HA1.out;have c6:=hM.old HA2.out;have q3:=hM.cell .head 3;have q5:=hM.cell .head 5;simp only[List.getElem?_cons_succ,List.getElem?_cons_zero]at q3 q5;clear hd he;go_wp2_with fail;go_quiet (fail)
     all_goals
      go_wp2_with fail
      all_goals first
       |(go_ret;exact⟨_,rfl,trivial,qF.below (L:=[_]) (by first|exact hM|exact qJ hM|exact zA hM _|exact qJ (qJ hM))⟩)
       |(go_roundw
         case rel=>exact⟨j+1,by omega,by go_num,by first|exact hM|exact qJ hM|exact zA hM _|exact qJ (qJ hM)⟩
         case measure=>simp[intOf];omega)
    ·go_wp2_with fail
     all_goals
      go_roundw
      case rel=>exact⟨k+1,by omega,by omega,by go_num,hM⟩
      case measure=>simp[intOf];omega
  ·go_wp2_with(first|refine zC ?_)
   all_goals(go_ret;exact⟨_,rfl,trivial,hM.below⟩)
theorem xy(n lo hi:Int)(w:World):Calls Tryz.prog 172 #[Iv n,Iv lo,Iv hi] w (bR (fun b:Bool=> .bool b) (fun b=>Hid (b=true↔(lo≤n∧n≤hi))) w):=by
 by_cases h1:lo≤n<;>by_cases h2:n≤hi
 all_goals
  go_enter Tryz.func172,Tryz.ntmps172;go_wp2
  all_goals
   go_ret;exact⟨_,rfl,hide (by simp<;>omega),Below.refl _ _⟩
theorem DX(S:Option Addr)(n c:Nat)(f:Nat→Int)(lo hi:Int)(w:World)(hn:n≤9223372036854775807)(h:Hid (jT w S n f)):
 Calls Tryz.prog 181 #[.slice S n c,Iv lo,Iv hi] w (JK w):=by
 have hM:=qo w;go_enter Tryz.func181,Tryz.ntmps181;go_wp2_with fail;go_loopw [11] (fun s wx=>∃k:Nat,k≤n∧s=Iv k∧qF w wx []) (fun s _=>n-(intOf s).toNat)
 case atStart=>exact⟨0,by omega,rfl,hM⟩
 case round=>
  clear hM;obtain⟨k,hk,rfl,hM⟩:=hrel;by_cases hlt:k<n
  ·obtain⟨b,o,rfl,hc,hi⟩:=h.out k hlt;have HC:=hide hc;clear hc;go_wp2_with(first|(go_at_call 172;(with_reducible refine uD hM (xy _ _ _ _) ?_ ?_)<;>(clear hM;intro W1 hb hM))|((with_reducible refine lX ?_);refine zD hM rfl (by first|exact rfl|(go_simp;done)) rfl (ur rfl) (HC.out) ?_))
   all_goals first
    |(go_ret;exact⟨_,rfl,trivial,hM.below⟩)
    |(go_roundw
      case rel=>exact⟨k+1,by omega,by go_num,hM⟩
      case measure=>simp[intOf];omega)
  ·go_wp2_with fail
   all_goals(go_ret;exact⟨_,rfl,trivial,hM.below⟩)
theorem Yq(S:Option Addr)(n c:Nat)(r:Nat→Sl)(lo hi:Int)(w:World)(hn:n≤9223372036854775807)(h:Hid (Qs w S n r)):
 Calls Tryz.prog 182 #[.slice S n c,Iv lo,Iv hi] w (JK w):=by
 have hM:=qo w;go_enter Tryz.func182,Tryz.ntmps182;go_wp2_with fail;go_loopw [11] (fun s wx=>∃k:Nat,k≤n∧s=Iv k∧qF w wx []) (fun s _=>n-(intOf s).toNat)
 case atStart=>exact⟨0,by omega,rfl,hM⟩
 case round=>
  clear hM;obtain⟨k,hk,rfl,hM⟩:=hrel;by_cases hlt:k<n
  ·obtain⟨b,o,rfl,hc,hl,f,hi⟩:=h.out k hlt;have HC:=hide hc;have HI:=hide hi;clear hc hi;go_wp2_with(first|(go_at_call 181;(with_reducible refine uD hM (DX _ _ _ f _ _ _ (by unfold maxLen at hl;omega) (hide (zW hM HI.out))) ?_ ?_)<;>(clear hM;intro W1 hb hM))|((with_reducible refine lX ?_);refine zD hM rfl (by first|exact rfl|(go_simp;done)) rfl (ur rfl) (HC.out) ?_))
   all_goals first
    |(go_ret;exact⟨_,rfl,trivial,hM.below⟩)
    |(go_roundw
      case rel=>exact⟨k+1,by omega,by go_num,hM⟩
      case measure=>simp[intOf];omega)
  ·go_wp2_with fail
   all_goals(go_ret;exact⟨_,rfl,trivial,hM.below⟩)
theorem Gw(S:Option Addr)(n c:Nat)(f:Nat→Int)(w:World)(hn:n≤9223372036854775807)(h:Hid (jT w S n f)):
 Calls Tryz.prog 180 #[.slice S n c] w (JK w):=by
 have hM:=qo w;go_enter Tryz.func180,Tryz.ntmps180;go_wp2_with fail;go_loopw [3] (fun s wx=>∃k:Nat,1≤k∧k≤n+1∧s=Iv k∧qF w wx []) (fun s _=>n-(intOf s).toNat)
 case atStart=>exact⟨1,by omega,by omega,rfl,hM⟩
 case round=>
  clear hM;obtain⟨k,hk1,hk,rfl,hM⟩:=hrel;by_cases hlt:k<n
  ·obtain⟨j,hj⟩:∃j,k=j+1:=⟨k-1,qg⟩;obtain⟨b,o,rfl,hc,hi⟩:=h.out k hlt;have c1:=hM.old hc;have c0:=hM.old (zE h.out (k:=j) qg).1;have iw:IntKind.i64.wrap ((k:Int)-1)=(j:Int):=by rw[show(k:Int)-1=j by omega];exact IntWalk.i64_in _ qg
   have hjn:j<n:=qg;have HJ:=hide hj;clear hc hj;go_wp2_with fail;go_quiet (fail)
   all_goals
    go_wp2_with fail
    all_goals first
     |(go_ret;exact⟨_,rfl,trivial,qF.below (L:=[]) (by first|exact hM|exact qJ hM|exact zA hM _|exact qJ (qJ hM))⟩)
     |(go_roundw
       case rel=>exact⟨k+1,by omega,by omega,by go_num,by first|exact hM|exact qJ hM|exact zA hM _|exact qJ (qJ hM)⟩
       case measure=>simp[intOf];omega)
  ·go_wp2_with fail
   all_goals(go_ret;exact⟨_,rfl,trivial,hM.below⟩)
theorem VS(S:Option Addr)(n c:Nat)(f:Nat→Int)(g:Int)(w:World)(hn:n≤9223372036854775807)(h:Hid (jT w S n f)):
 Calls Tryz.prog 185 #[.slice S n c,Iv g] w (JK w):=by
 have hM:=qo w;go_enter Tryz.func185,Tryz.ntmps185;go_wp2_with fail;go_loopw [5] (fun s wx=>∃k:Nat,1≤k∧k≤n+1∧s=Iv k∧qF w wx []) (fun s _=>n-(intOf s).toNat)
 case atStart=>exact⟨1,by omega,by omega,rfl,hM⟩
 case round=>
  clear hM;obtain⟨k,hk1,hk,rfl,hM⟩:=hrel;by_cases hlt:k<n
  ·obtain⟨j,hj⟩:∃j,k=j+1:=⟨k-1,qg⟩;obtain⟨b,o,rfl,hc,hi⟩:=h.out k hlt;have c1:=hM.old hc;have c0:=hM.old (zE h.out (k:=j) qg).1;have iw:IntKind.i64.wrap ((k:Int)-1)=(j:Int):=by rw[show(k:Int)-1=j by omega];exact IntWalk.i64_in _ qg
   have hjn:j<n:=qg;have HJ:=hide hj;clear hc hj;go_wp2_with fail;go_quiet (fail)
   all_goals
    go_wp2_with fail
    all_goals first
     |(go_ret;exact⟨_,rfl,trivial,qF.below (L:=[]) (by first|exact hM|exact qJ hM|exact zA hM _|exact qJ (qJ hM))⟩)
     |(go_roundw
       case rel=>exact⟨k+1,by omega,by omega,by go_num,by first|exact hM|exact qJ hM|exact zA hM _|exact qJ (qJ hM)⟩
       case measure=>simp[intOf];omega)
  ·go_wp2_with fail
   all_goals(go_ret;exact⟨_,rfl,trivial,hM.below⟩)
theorem wY(S:Option Addr)(n c m:Nat)(r:Nat→Sl)(g:Int)(w:World)(hn:n≤1000)(hm:m≤1000)(h:Hid (Qs w S n r))(hr:∀k,k<n→(r k).n=m):
 Calls Tryz.prog 183 #[.slice S n c,Iv g] w (JK w):=by
 have hM:=qo w;go_enter Tryz.func183,Tryz.ntmps183;go_wp2_with fail;go_loopw [10] (fun s wx=>∃k:Nat,k≤n∧s=Iv k∧qF w wx []) (fun s _=>n-(intOf s).toNat)
 case atStart=>exact⟨0,by omega,rfl,hM⟩
 case round=>
  clear hM;obtain⟨k,hk,rfl,hM⟩:=hrel;by_cases hlt:k<n
  ·obtain⟨b,o,rfl,hc,hl,fk,hi⟩:=h.out k hlt;have hrk:=hr k hlt;generalize hrr:r k=rk at hc hl hi hrk;obtain⟨Sk,nk,ck⟩:=rk;dsimp only[Sl.v]at hrk hi hc;obtain rfl:=hrk.symm;have HC:=hide hc;have HI:=hide hi;have HR:=hide hrr;clear hc hi hl hrr;rcases Nat.eq_zero_or_pos k with hk0|hk0
   ·subst hk0;go_wp2_with(first|(go_at_call 185;(with_reducible refine uD hM (VS _ _ _ fk _ _ qg (hide (zW hM HI.out))) ?_ ?_)<;>(clear hM;intro W1 hb hM))|((with_reducible refine lX ?_);refine zD hM rfl (by first|exact rfl|(go_simp;done)) rfl (ur rfl) (HC.out) ?_))
    all_goals first
     |(go_ret;exact⟨_,rfl,trivial,hM.below⟩)
     |skip
    go_loopw [21] (fun s wx=>∃j:Nat,j≤m∧s=Iv j∧qF w wx []) (fun s _=>m-(intOf s).toNat)
    case atStart=>exact⟨0,by omega,rfl,hM⟩
    case round=>
     clear hM;obtain⟨j,hj0,rfl,hM⟩:=hrel;by_cases hj:j<m
     ·obtain⟨b2,o2,rfl,hd,hd2⟩:=HI.out j hj;have c1:=hM.old hd;clear hd;go_wp2_with fail;go_quiet (fail)
      all_goals
       go_wp2_with fail
       all_goals first
        |(go_ret;exact⟨_,rfl,trivial,qF.below (L:=[]) (by first|exact hM|exact qJ hM|exact zA hM _|exact qJ (qJ hM))⟩)
        |(go_roundw
          case rel=>exact⟨j+1,by omega,by go_num,by first|exact hM|exact qJ hM|exact zA hM _|exact qJ (qJ hM)⟩
          case measure=>simp[intOf];omega)
     ·go_wp2_with fail
      all_goals
       go_roundw
       case rel=>exact⟨1,by omega,by go_num,hM⟩
       case measure=>simp[intOf];omega
   ·obtain⟨i,hi⟩:∃i,k=i+1:=⟨k-1,qg⟩;obtain⟨bb,oo,e,hc2,hl2,fi,hi2⟩:=h.out i qg;injection e with e;injection e with e1 e2;subst e1 e2;have hri:=hr i qg;generalize hrr:r i=ri at hc2 hl2 hi2 hri;obtain⟨Si,ni,ci⟩:=ri;dsimp only[Sl.v]at hri hi2 hc2;obtain rfl:=hri.symm;have iw:IntKind.i64.wrap ((k:Int)-1)=(i:Int):=by rw[show(k:Int)-1=i by omega];exact IntWalk.i64_in _ qg
    have hin:i<n:=qg;have d0:decide (0<k)=true:=decide_eq_true qg;have d1:decide ((0:Int)<(k:Int))=true:=decide_eq_true qg;have HB:=hide hc2;have HJ:=hide hi2;have HK:=hide hi;clear hc2 hi2 hl2 hi hrr;go_wp2_with(first|(go_at_call 185;(with_reducible refine uD hM (VS _ _ _ fk _ _ qg (hide (zW hM HI.out))) ?_ ?_)<;>(clear hM;intro W1 hb hM))|((with_reducible refine lX ?_);refine zD hM rfl (by first|exact rfl|(go_simp;done)) rfl (ur rfl) (HC.out) ?_))
    all_goals first
     |(go_ret;exact⟨_,rfl,trivial,hM.below⟩)
     |skip
    go_loopw [21] (fun s wx=>∃j:Nat,j≤m∧s=Iv j∧qF w wx []) (fun s _=>m-(intOf s).toNat)
    case atStart=>exact⟨0,by omega,rfl,hM⟩
    case round=>
     clear hM;obtain⟨j,hj0,rfl,hM⟩:=hrel;by_cases hj:j<m
     ·obtain⟨b2,o2,rfl,hd,hd2⟩:=HI.out j hj;have c1:=hM.old hd;obtain⟨b3,o3,rfl,he,he2⟩:=HJ.out j hj;have c2:=hM.old HB.out;have c3:=hM.old he;clear he;clear hd;go_wp2_with fail;go_quiet (fail)
      all_goals
       go_wp2_with fail
       all_goals first
        |(go_ret;exact⟨_,rfl,trivial,qF.below (L:=[]) (by first|exact hM|exact qJ hM|exact zA hM _|exact qJ (qJ hM))⟩)
        |(go_roundw
          case rel=>exact⟨j+1,by omega,by go_num,by first|exact hM|exact qJ hM|exact zA hM _|exact qJ (qJ hM)⟩
          case measure=>simp[intOf];omega)
     ·go_wp2_with fail
      all_goals
       go_roundw
       case rel=>exact⟨k+1,by omega,by go_num,hM⟩
       case measure=>simp[intOf];omega
  ·go_wp2_with fail
   all_goals(go_ret;exact⟨_,rfl,trivial,hM.below⟩)
structure Bg(w:World)(p:Pf):Prop where
 a2:2≤p.al.n
 a12:p.al.n≤12
 m2:2≤p.ms.n
 m6:p.ms.n≤6
 cl:JA w p.cl p.al.n p.ms.n
 cf:JA w p.cf p.al.n p.ms.n
 cr:JA w p.cr p.al.n p.ms.n
 de:p.de.n=p.al.n
 id:p.id.n=p.al.n
 xs:p.xs.n=p.al.n
 ns:p.ns.n=p.ms.n
theorem yx{w W:World}{L:List qZ}{x:Sl}(hM:qF w W L)(h:fS w x):Hid (∃f,jT W x.S x.n f):=hide (gh hM h).2
theorem AH(S:Option Addr)(n c:Nat)(lo hi:Int)(w:World)(hn:n≤9223372036854775807)(h:Hid (∃f,jT w S n f)):
 Calls Tryz.prog 181 #[.slice S n c,Iv lo,Iv hi] w (JK w):=h.out.elim fun f hf=>DX S n c f lo hi w hn (hide hf)
theorem AJ(S:Option Addr)(n c:Nat)(w:World)(hn:n≤9223372036854775807)(h:Hid (∃f,jT w S n f)):
 Calls Tryz.prog 180 #[.slice S n c] w (JK w):=h.out.elim fun f hf=>Gw S n c f w hn (hide hf)
theorem AK(S:Option Addr)(n c:Nat)(g:Int)(w:World)(hn:n≤9223372036854775807)(h:Hid (∃f,jT w S n f)):
 Calls Tryz.prog 185 #[.slice S n c,Iv g] w (JK w):=h.out.elim fun f hf=>VS S n c f g w hn (hide hf)
theorem FP(s:ByteArray)(m:Int)(hs:s.size≤maxLen)(w:World):Calls Tryz.prog 178 #[.string s,Iv m] w (JK w):=
 (Yb s m hs w).mono (by
   rintro e W1 ⟨rfl,rfl⟩
   exact⟨_,rfl,trivial,Below.refl _ _⟩)
theorem Ud{w:World}{S:Option Addr}{n:Nat}{r s:Nat→Sl}(h:Qs w S n r)(k:Qs w S n s):∀i,i<n→r i=s i:=fun i hi=>by
 obtain⟨b,o,e,h1,_⟩:=h i hi;obtain⟨b2,o2,e2,k1,_⟩:=k i hi;rw[e]at e2;injection e2 with e2;injection e2 with e2 e3;subst e2 e3;rw[h1]at k1;injection k1 with k1;unfold Sl.v at k1;injection k1 with k1 k2 k3;rcases hr:r i with⟨a,b,c⟩;rcases hs:s i with⟨a',b',c'⟩;rw[hr,hs]at k1 k2 k3;simp only at k1 k2 k3;rw[k1,k2,k3]
theorem wZ{w:World}{x:Sl}{r:Nat→Sl}{a m:Nat}(h:Qs w x.S x.n r)(hx:x.n=a∧∀k,k<x.n→(r k).n=m):JA w x a m:=
 ⟨hx.1,fun s hs k hk=>by rw[Ud hs h k qg];exact hx.2 k qg⟩
theorem Qq{n:Nat}(h:n≤maxLen):n≤9223372036854775807:=by unfold maxLen at h;omega
set_option maxRecDepth 100000 in
set_option maxHeartbeats 8000000 in
theorem Gx(p:Pf)(w:World)(HP:Hid (Qx w p)):
 Calls Tryz.prog 115 #[.agg p.cells.toArray] w (bR (fun n:Int=>Iv n) (fun n=>qz n∧(n=0→Bg w p)) w):=by
 have hM:=qo w;obtain⟨rcl,Rcl⟩:=HP.out.cl.2;obtain⟨rcf,Rcf⟩:=HP.out.cf.2;obtain⟨rcr,Rcr⟩:=HP.out.cr.2;obtain⟨fa,FA⟩:=HP.out.al.2;replace Rcl:=hide Rcl;replace Rcf:=hide Rcf;replace Rcr:=hide Rcr;replace FA:=hide FA;have yal:=HP.out.al.1;have zal:=Qq yal;have yms:=HP.out.ms.1;have zms:=Qq yms;have yde:=HP.out.de.1;have zde:=Qq yde;have yid:=HP.out.id.1;have zid:=Qq yid;have yxs:=HP.out.xs.1;have zxs:=Qq yxs;have yns:=HP.out.ns.1;have zns:=Qq yns;have ycl:=HP.out.cl.1;have zcl:=Qq ycl;have ycf:=HP.out.cf.1;have zcf:=Qq ycf;have ycr:=HP.out.cr.1;have zcr:=Qq ycr;go_enter Tryz.func115,Tryz.ntmps115;go_upto_region 1 with(first|(refine qe ?_;clear hM;intro g W hM));obtain⟨gp,rfl⟩:=uC hM;dsimp only[Pf.cells,Sl.v]at hM;refine qj ?_;go_cut [3,4] (fun s3 s4 wx=>s3=Iv p.al.n∧s4=Iv p.ms.n∧qF w wx [(gp,[.string p.nm,Iv p.em,Iv p.mf,.slice p.al.S p.al.n p.al.c,.slice p.ms.S p.ms.n p.ms.c,.slice p.cl.S p.cl.n p.cl.c,.slice p.cf.S p.cf.n p.cf.c,.slice p.cr.S p.cr.n p.cr.c,.slice p.de.S p.de.n p.de.c,.slice p.id.S p.id.n p.id.c,.slice p.xs.S p.xs.n p.xs.c,.slice p.ns.S p.ns.n p.ns.c,Iv p.rf,Iv p.ex,Iv p.ce],35)])
 case first=>
  have q3:=hM.cell .head 3;have q4:=hM.cell .head 4;simp only[List.getElem?_cons_succ,List.getElem?_cons_zero]at q3 q4;go_quiet (fail)
  all_goals
   go_wp2_with fail
   all_goals
    go_meet;exact⟨rfl,rfl,by first|exact hM|exact qJ hM|exact zA hM _|exact qJ (qJ hM)⟩
 case rest=>
  clear hM;obtain⟨rfl,rfl,hM⟩:=hcut;go_wp2_with(first|refine zC ?_|(go_at_call 178;(with_reducible refine uD hM (FP _ _ HP.out.nm _) ?_ ?_)<;>(clear hM;intro W1 hb hM))|(go_at_call 172;(with_reducible refine uD hM (xy _ _ _ _) ?_ ?_)<;>(clear hM;intro W1 hb hM))|(go_at_call 181;(with_reducible refine uD hM (AH _ _ _ _ _ _ (by first|exact zal|exact zms|exact zde|exact zid|exact zxs|exact zns|exact zcl|exact zcf|exact zcr) (by first|exact yx hM HP.out.al|exact yx hM HP.out.ms|exact yx hM HP.out.de|exact yx hM HP.out.id|exact yx hM HP.out.xs|exact yx hM HP.out.ns)) ?_ ?_)<;>(clear hM;intro W1 hb hM))|(go_at_call 180;(with_reducible refine uD hM (AJ _ _ _ _ (by first|exact zal|exact zms|exact zde|exact zid|exact zxs|exact zns|exact zcl|exact zcf|exact zcr) (by first|exact yx hM HP.out.al|exact yx hM HP.out.ms|exact yx hM HP.out.de|exact yx hM HP.out.id|exact yx hM HP.out.xs|exact yx hM HP.out.ns)) ?_ ?_)<;>(clear hM;intro W1 hb hM))|(go_at_call 185;(with_reducible refine uD hM (AK _ _ _ _ _ (by first|exact zal|exact zms|exact zde|exact zid|exact zxs|exact zns|exact zcl|exact zcf|exact zcr) (by first|exact yx hM HP.out.al|exact yx hM HP.out.ms|exact yx hM HP.out.de|exact yx hM HP.out.id|exact yx hM HP.out.xs|exact yx hM HP.out.ns)) ?_ ?_)<;>(clear hM;intro W1 hb hM))|(go_at_call 179;(with_reducible refine uD hM (VT p _ _ _ rcl _ ycl yal yms (hide (yP hM Rcl.out))) ?_ ?_)<;>(clear hM;intro W1 hcl hM))|(go_at_call 182;(with_reducible refine uD hM (Yq _ _ _ rcl _ _ _ zcl (hide (yP hM Rcl.out))) ?_ ?_)<;>(clear hM;intro W1 hb hM))|(go_at_call 183;(with_reducible refine uD hM (wY _ _ _ p.ms.n rcl _ _ (by have:=(hcl.out (by trivial)).1;omega) qg (hide (yP hM Rcl.out)) (hcl.out (by trivial)).2) ?_ ?_)<;>(clear hM;intro W1 hb hM))|(go_at_call 179;(with_reducible refine uD hM (VT p _ _ _ rcf _ ycf yal yms (hide (yP hM Rcf.out))) ?_ ?_)<;>(clear hM;intro W1 hcf hM))|(go_at_call 182;(with_reducible refine uD hM (Yq _ _ _ rcf _ _ _ zcf (hide (yP hM Rcf.out))) ?_ ?_)<;>(clear hM;intro W1 hb hM))|(go_at_call 183;(with_reducible refine uD hM (wY _ _ _ p.ms.n rcf _ _ (by have:=(hcf.out (by trivial)).1;omega) qg (hide (yP hM Rcf.out)) (hcf.out (by trivial)).2) ?_ ?_)<;>(clear hM;intro W1 hb hM))|(go_at_call 179;(with_reducible refine uD hM (VT p _ _ _ rcr _ ycr yal yms (hide (yP hM Rcr.out))) ?_ ?_)<;>(clear hM;intro W1 hcr hM))|(go_at_call 182;(with_reducible refine uD hM (Yq _ _ _ rcr _ _ _ zcr (hide (yP hM Rcr.out))) ?_ ?_)<;>(clear hM;intro W1 hb hM))|(go_at_call 183;(with_reducible refine uD hM (wY _ _ _ p.ms.n rcr _ _ (by have:=(hcr.out (by trivial)).1;omega) qg (hide (yP hM Rcr.out)) (hcr.out (by trivial)).2) ?_ ?_)<;>(clear hM;intro W1 hb hM))|(go_at_call 184;(with_reducible refine uD hM (lq p p.ms.n fa rcl _ qg qg (hcl.out (by trivial)).1 (hide (zW hM FA.out)) (hide (yP hM Rcl.out)) (hcl.out (by trivial)).2) ?_ ?_)<;>(clear hM;intro W1 hb hM)))
  all_goals first
   |(go_ret;exact⟨_,rfl,⟨⟨qG,qG⟩,fun h=>absurd h qG⟩,hM.below⟩)
   |(go_ret;exact⟨_,rfl,⟨⟨qG,qG⟩,fun _=>⟨qg,qg,by omega,by omega,wZ Rcl.out (hcl.out (by trivial)),wZ Rcf.out (hcf.out (by trivial)),wZ Rcr.out (hcr.out (by trivial)),by omega,by omega,by omega,by simp_all;omega⟩⟩,hM.below⟩)
   |skip
  all_goals trace_state
theorem Mg(S T:Option Addr)(n c d:Nat)(f g:Nat→Int)(x:Int)(w:World)(hn1:1≤n)(hn:n≤1000000)(hx:qz x)(h:Hid (jT w S n f))(h2:Hid (jT w T n g)):
 Calls Tryz.prog 170 #[.slice S n c,.slice T n d,Iv x] w (kY (fun _=>True) w):=by
 have hM:=qo w;go_enter Tryz.func170,Tryz.ntmps170;go_wp2_with fail;go_loopw [7] (fun s wx=>∃k:Nat,k≤n∧s=Iv k∧qF w wx []) (fun s _=>n-(intOf s).toNat)
 case atStart=>exact⟨0,by omega,rfl,hM⟩
 case round=>
  clear hM;obtain⟨k,hk,rfl,hM⟩:=hrel;obtain⟨b,o,rfl,ha0,_⟩:=h.out 0 qg;obtain⟨bb,oo,rfl,hb0,ib0⟩:=h2.out 0 qg;have HB0:=hide hb0;clear ha0 hb0;rcases Nat.eq_zero_or_pos k with hk0|hk0
  ·subst hk0;obtain⟨ha0,ia0⟩:=zE h.out (k:=0) qg;have HA0:=hide ha0;clear ha0;go_wp2_with(first|((with_reducible refine lX ?_);refine zD hM rfl (by first|exact rfl|(go_simp;done)) rfl (ur rfl) (HA0.out) ?_)|((with_reducible refine lX ?_);refine zD hM rfl (by first|exact rfl|(go_simp;done)) rfl (ur rfl) (HB0.out) ?_))
   all_goals first
    |(go_ret;exact⟨_,rfl,⟨by first|assumption|exact zi _|exact ze _,trivial⟩,qF.below (L:=[]) (by first|exact hM|exact qJ hM|exact zA hM _|exact qJ (qJ hM))⟩)
    |(go_roundw
      case rel=>exact⟨1,by omega,by go_num,hM⟩
      case measure=>simp[intOf];omega)
  ·obtain⟨j,hj⟩:∃j,k=j+1:=⟨k-1,qg⟩;have iw:IntKind.i64.wrap ((k:Int)-1)=(j:Int):=by rw[show(k:Int)-1=j by omega];exact IntWalk.i64_in _ qg
   have hjn:j<n:=qg;obtain⟨hbj,ibj⟩:=zE h2.out hjn;have HBJ:=hide hbj;have e0:((k:Int)==0)=false:=by simp;omega
   have e1:(k==0)=false:=by simp;omega
   have e2:¬(k:Int)=0:=qg;have e3:¬k=0:=qg;clear hbj;by_cases hlt:k<n
   ·obtain⟨hak,iak⟩:=zE h.out hlt;obtain⟨haj,iaj⟩:=zE h.out hjn;obtain⟨hbk,ibk⟩:=zE h2.out hlt;have HAK:=hide hak;have HAJ:=hide haj;have HBK:=hide hbk;have HJ:=hide hj;have e4:((k:Int)==(n:Int))=false:=by simp;omega
    have e5:(k==n)=false:=by simp;omega
    clear hak haj hbk hj;go_upto_region 8 with(first|((with_reducible refine lX ?_);refine zD hM rfl (by first|exact rfl|(go_simp;done)) rfl (ur rfl) (HAK.out) ?_))
    all_goals first
     |(go_roundw
       case rel=>exact⟨k+1,by omega,by go_num,hM⟩
       case measure=>simp[intOf];omega)
     |skip
    have c1:=hM.old HAK.out;have c2:=hM.old HAJ.out;have c3:=hM.old HBK.out;have c4:=hM.old HBJ.out;go_cut [8,9,10,11] (fun s8 s9 s10 s11 wx=>s8=Iv (f j)∧s9=Iv (f k)∧s10=Iv (g j)∧s11=Iv (g k)∧qF w wx [])
    case first=>
     go_quiet (fail)
     all_goals
      go_wp2_with fail
      all_goals
       go_meet;exact⟨rfl,rfl,rfl,rfl,by first|exact hM|exact qJ hM|exact zA hM _|exact qJ (qJ hM)⟩
    case rest=>
     clear hM c1 c2 c3 c4;obtain⟨rfl,rfl,rfl,rfl,hM⟩:=hcut;go_wp2_with(first|(go_at_call 188;(with_reducible refine cx hM (tQ _ _ _ (by first|assumption|exact zi _|exact ze _) (by first|assumption|exact zi _|exact ze _)) ?_);clear hM;rintro⟨q1,q2⟩ W1 ⟨hq,-⟩ hM;dsimp only at hq⊢))
     all_goals(go_ret;exact⟨_,rfl,⟨by first|assumption|exact zi _|exact ze _,trivial⟩,qF.below (L:=[]) (by first|exact hM|exact qJ hM|exact zA hM _|exact qJ (qJ hM))⟩)
   ·have e4:((k:Int)==(n:Int))=true:=by simp;omega
    have e5:(k==n)=true:=by simp;omega
    have HJ:=hide hj;clear hj;go_wp2_with(first|((with_reducible refine lX ?_);refine zD hM rfl (by first|exact rfl|(go_simp;done)) rfl (ur rfl) (HBJ.out) ?_))
    all_goals(go_ret;exact⟨_,rfl,⟨by first|assumption|exact zi _|exact ze _,trivial⟩,qF.below (L:=[]) (by first|exact hM|exact qJ hM|exact zA hM _|exact qJ (qJ hM))⟩)
theorem Bf(S T:Option Addr)(n c d:Nat)(x:Int)(w:World)(hn1:1≤n)(hn:n≤1000000)(hx:qz x)(h:Hid (∃f,jT w S n f))(h2:Hid (∃g,jT w T n g)):
 Calls Tryz.prog 170 #[.slice S n c,.slice T n d,Iv x] w (kY (fun _=>True) w):=by
 obtain⟨f,h⟩:=h.out;obtain⟨g,h2⟩:=h2.out;exact Mg S T n c d f g x w hn1 hn hx (hide h) (hide h2)
theorem Mh(p:Pf)(S:Option Addr)(c:Nat)(r:Nat→Sl)(fa fm:Nat→Int)(alt mass:Int)(w:World)(hn1:1≤p.al.n)(hn:p.al.n≤1000)(hm1:1≤p.ms.n)(hm:p.ms.n≤1000)(ha:qz alt)(hb:qz mass)
 (h:Hid (Qs w S p.al.n r)) (hr:∀k,k<p.al.n→(r k).n=p.ms.n) (hal:Hid (jT w p.al.S p.al.n fa)) (hms:Hid (jT w p.ms.S p.ms.n fm)):
 Calls Tryz.prog 173 #[.agg p.cells.toArray,.slice S p.al.n c,Iv alt,Iv mass] w (kY (fun _=>True) w):=by
 have hM:=qo w;obtain⟨nm,em,mf,⟨aS,n,ac⟩,⟨mS,m,mc⟩,cl,cf,cr,de,id,xs,ns,rf,ex,ce⟩:=p;dsimp only at hn1 hn hm1 hm h hr hal hms⊢;go_enter Tryz.func173,Tryz.ntmps173;go_upto_region 1 with(first|(refine qe ?_;clear hM;intro g W hM));obtain⟨gp,rfl⟩:=uC hM;dsimp only[Pf.cells,Sl.v]at hM;refine qj ?_;go_upto_region 2 with(first|((with_reducible refine EP ?_);refine di hM rfl rfl rfl rfl qg ?_;clear hM;intro g2 cs W1 HA hM)|(refine qe ?_;clear hM;intro g W hM));obtain⟨gl,rfl⟩:∃gl,gl=g2:=⟨_,rfl⟩;obtain⟨cl2,rfl⟩:∃x,x=cs:=⟨_,rfl⟩;have HL:=HA;go_upto_region 3 with(first|((with_reducible refine EP ?_);refine di hM rfl rfl rfl rfl qg ?_;clear hM;intro g2 cs W1 HA hM)|(refine qe ?_;clear hM;intro g W hM));obtain⟨gc,rfl⟩:∃gc,gc=g2:=⟨_,rfl⟩;obtain⟨cc,rfl⟩:∃x,x=cs:=⟨_,rfl⟩;have HC:=HA;go_wp2_with(first|(refine qe ?_;clear hM;intro g W hM));go_loopw [23] (fun s wx=>∃(k:Nat) (cl2 cc:List Value),k≤m∧s=Iv k∧Hid (AI cl2 m)∧Hid (AI cc n)∧qF w wx [(gc,cc,2),(gl,cl2,2),(gp,[.string nm,Iv em,Iv mf,.slice aS n ac,.slice mS m mc,cl.v,cf.v,cr.v,de.v,id.v,xs.v,ns.v,Iv rf,Iv ex,Iv ce],35)]) (fun s _=>m-(intOf s).toNat)
 case atStart=>exact⟨0,cl2,cc,by omega,rfl,HL,HC,hM⟩
 case round=>
  clear hM HL HC;obtain⟨k,cl2,cc,hk,rfl,HL,HC,hM⟩:=hrel;by_cases hlt:k<m
  ·go_wp2_with(first|(refine qe ?_;clear hM;intro g W hM));go_loopw [28] (fun s wx=>∃(j:Nat) (cc:List Value),j≤n∧s=Iv j∧Hid (AI cc n)∧qF w wx [(gc,cc,2),(gl,cl2,2),(gp,[.string nm,Iv em,Iv mf,.slice aS n ac,.slice mS m mc,cl.v,cf.v,cr.v,de.v,id.v,xs.v,ns.v,Iv rf,Iv ex,Iv ce],35)]) (fun s _=>n-(intOf s).toNat)
   case atStart=>exact⟨0,cc,by omega,rfl,HC,hM⟩
   case round=>
    clear hM HC;obtain⟨j,cc,hj,rfl,HC,hM⟩:=hrel;by_cases hlj:j<n
    ·obtain⟨b,o,rfl,hc,hl,fj,hi⟩:=h.out j hlj;have hrk:=hr j hlj;generalize hrr:r j=rk at hc hl hi hrk;obtain⟨Sj,nj,cj⟩:=rk;dsimp only[Sl.v]at hrk hi hc;obtain rfl:=hrk.symm;obtain⟨b2,o2,rfl,hd,id2⟩:=hi k hlt;have HX:=hide hc;have HY:=hide hd;have HR:=hide hrr;clear hc hi hl hrr hd;go_wp2_with(first|((with_reducible refine lX ?_);refine zD hM rfl (by first|exact rfl|(go_simp;done)) rfl (ur rfl) (HX.out) ?_)|((with_reducible refine lX ?_);refine zD hM rfl (by first|exact rfl|(go_simp;done)) rfl (ur rfl) (HY.out) ?_)|((with_reducible refine sX ?_);refine Uc hM rfl rfl rfl rfl HC qg (by first|assumption|exact zi _|exact ze _) ?_;clear hM HC;intro cc W HC hM)|(refine qe ?_;clear hM;intro g W hM))
     all_goals
      go_roundw
      case rel=>exact⟨j+1,cc,by omega,by go_num,HC,hM⟩
      case measure=>simp[intOf];omega
    ·go_wp2_with(first|(go_at_call 170;(with_reducible refine cx hM (Bf _ _ _ _ _ _ _ qg qg (by first|assumption|exact zi _|exact ze _) (hide ⟨_,zW hM hal.out⟩) (hide (Gu hM HC))) ?_);clear hM;rintro q W1 ⟨hq,-⟩ hM)|((with_reducible refine sX ?_);refine Uc hM rfl rfl rfl rfl HL qg (by first|assumption|exact zi _|exact ze _) ?_;clear hM HL;intro cl2 W HL hM)|(refine qe ?_;clear hM;intro g W hM))
     all_goals
      go_roundw
      case rel=>exact⟨k+1,cl2,cc,by omega,by go_num,HL,HC,hM⟩
      case measure=>simp[intOf];omega
  ·go_wp2_with(first|(refine qe ?_;clear hM;intro g W hM)|(go_at_call 170;(with_reducible refine cx hM (Bf _ _ _ _ _ _ _ qg qg (by first|assumption|exact zi _|exact ze _) (hide ⟨_,zW hM hms.out⟩) (hide (Gu hM HL))) ?_);clear hM;rintro q W1 ⟨hq,-⟩ hM))
   all_goals(go_ret;exact⟨_,rfl,⟨hq,trivial⟩,hM.below⟩)
theorem Zl{w W:World}{L:List qZ}(hM:qF w W L){x:Sl}{a m:Nat}(hr:DZ w x)(h:JA w x a m):JA W x a m:=by
 obtain⟨r,hr⟩:=hr.2;refine⟨h.1,fun s hs k hk=> ?_⟩;have:=h.1;rw[Ud hs (yP hM hr) k qg];exact h.2 r hr k hk
theorem VU{w W:World}{L:List qZ}(hM:qF w W L){x:Sl}{a m:Nat}(h:JA W x a m):JA w x a m:=⟨h.1,fun s hs=>h.2 s (yP hM hs)⟩
theorem Ue{w W:World}{L:List qZ}(hM:qF w W L){p:Pf}(h:Qx w p)(k:Bg W p):Bg w p:=
 ⟨k.a2,k.a12,k.m2,k.m6,VU hM k.cl,VU hM k.cf,VU hM k.cr,k.de,k.id,k.xs,k.ns⟩
theorem VV{w W:World}{L:List qZ}(hM:qF w W L){p:Pf}(h:Qx w p)(k:Bg w p):Bg W p:=
 ⟨k.a2,k.a12,k.m2,k.m6,Zl hM h.cl k.cl,Zl hM h.cf k.cf,Zl hM h.cr k.cr,k.de,k.id,k.xs,k.ns⟩
theorem lr{w W:World}{L:List qZ}(hM:qF w W L){p:Pf}(HP:Hid (Qx w p)):Calls Tryz.prog 115 #[.agg p.cells.toArray] W (bR (fun n:Int=>Iv n) (fun n=>qz n∧(n=0→Bg w p)) W):=
 (Gx p W (hide (jR hM HP.out))).mono (by
   rintro e W1 ⟨q,rfl,⟨hq,hk⟩,hb⟩
   exact⟨q,rfl,⟨hq,fun hz=>Ue hM HP.out (hk hz)⟩,hb⟩)
theorem Vi(S T:Option Addr)(n n2 c d:Nat)(x:Int)(w:World)(hn1:1≤n)(hn:n≤1000000)(he:n2=n)(hx:qz x)(h:Hid (∃f,jT w S n f))(h2:Hid (∃g,jT w T n2 g)):
 Calls Tryz.prog 170 #[.slice S n c,.slice T n2 d,Iv x] w (kY (fun _=>True) w):=by
 subst he;exact Bf S T _ c d x w hn1 hn hx h h2
theorem Bh(p:Pf)(x:Sl)(alt mass:Int)(w:World)(HP:Hid (Qx w p))(HK:Hid (Bg w p))(ha:qz alt)(hb:qz mass)(hr:DZ w x)(ht:JA w x p.al.n p.ms.n):
 Calls Tryz.prog 173 #[.agg p.cells.toArray,.slice x.S x.n x.c,Iv alt,Iv mass] w (kY (fun _=>True) w):=by
 obtain⟨r,hr⟩:=hr.2;obtain⟨fa,hfa⟩:=HP.out.al.2;obtain⟨fm,hfm⟩:=HP.out.ms.2;obtain⟨e,h⟩:=ht;rw[e]at hr⊢;have h2:=HK.out;exact Mh p x.S x.c r fa fm alt mass w (by have:=h2.a2;omega) (by have:=h2.a12;omega) (by have:=h2.m2;omega) (by have:=h2.m6;omega) ha hb (hide hr) (h r (by rw[e];exact hr)) (hide hfa) (hide hfm)
theorem fT(p:Pf)(alt mass:Int)(w:World)(HP:Hid (Qx w p)):
 Calls Tryz.prog 169 #[.agg p.cells.toArray,Iv alt,Iv mass] w (bR (fun n:Int=>Iv n) (fun n=>qz n∧(n=0→Bg w p)) w):=by
 have hM:=qo w;go_enter Tryz.func169,Tryz.ntmps169;go_upto_region 1 with(first|(refine qe ?_;clear hM;intro g W hM));obtain⟨gp,rfl⟩:=uC hM;dsimp only[Pf.cells,Sl.v]at hM;refine qj ?_;go_wp2_with(first|refine zC ?_|(go_at_call 115;(with_reducible refine Bq hM (lr hM HP) ?_ ?_)<;>(clear hM;first|(intro q W1 hq hz hz1 hM)|(intro W1 HK hM)))|(go_at_call 172;(with_reducible refine uD hM (xy _ _ _ _) ?_ ?_)<;>(clear hM;intro W1 hb hM)))
 all_goals first
  |(go_ret;exact⟨_,rfl,⟨⟨qG,qG⟩,fun h=>absurd h qG⟩,hM.below⟩)
  |(go_ret;exact⟨_,rfl,⟨hq,fun h=>absurd h hz⟩,hM.below⟩)
  |(go_ret;exact⟨_,rfl,⟨⟨qG,qG⟩,fun _=>HK.out⟩,hM.below⟩)
theorem uZ{w W:World}{L:List qZ}(hM:qF w W L){p:Pf}(HP:Hid (Qx w p))(alt mass:Int):Calls Tryz.prog 169 #[.agg p.cells.toArray,Iv alt,Iv mass] W (bR (fun n:Int=>Iv n) (fun n=>qz n∧(n=0→Bg w p)) W):=
 (fT p alt mass W (hide (jR hM HP.out))).mono (by
   rintro e W1 ⟨q,rfl,⟨hq,hk⟩,hb⟩
   exact⟨q,rfl,⟨hq,fun hz=>Ue hM HP.out (hk hz)⟩,hb⟩)
theorem fU(p:Pf)(x:Int)(w:World)(hx:qz x)(HP:Hid (Qx w p)):Calls Tryz.prog 103 #[.agg p.cells.toArray,Iv x] w (tR (fun _ _=>True) w):=by
 have hM:=qo w;go_enter Tryz.func103,Tryz.ntmps103;go_upto_region 1 with(first|(refine qe ?_;clear hM;intro g W hM));obtain⟨gp,rfl⟩:=uC hM;dsimp only[Pf.cells,Sl.v]at hM;refine qj ?_;go_wp2_with(first|refine zC ?_|(go_at_call 169;(with_reducible refine Bq hM (uZ hM HP _ _) ?_ ?_)<;>(clear hM;first|(intro q W1 hq hz hz1 hM)|(intro W1 HK hM)))|(go_at_call 170;(with_reducible refine cx hM (Vi _ _ _ _ _ _ _ _ (by have:=HK.out.a2;omega) (by have:=HK.out.a12;omega) HK.out.de (by first|assumption|exact zi _|exact ze _) (yx hM HP.out.al) (yx hM HP.out.de)) ?_);clear hM;rintro r W1 ⟨hr,-⟩ hM))
 all_goals first
  |(go_ret2;exact⟨(_,_),rfl,⟨zg,trivial⟩,hM.below⟩)
  |(go_ret2;exact⟨(_,_),rfl,⟨qY,trivial⟩,hM.below⟩)
theorem pd(p:Pf)(x:Int)(w:World)(hx:qz x)(HP:Hid (Qx w p)):Calls Tryz.prog 197 #[.agg p.cells.toArray,Iv x] w (tR (fun _ _=>True) w):=by
 have hM:=qo w;go_enter Tryz.func197,Tryz.ntmps197;go_upto_region 1 with(first|(refine qe ?_;clear hM;intro g W hM));obtain⟨gp,rfl⟩:=uC hM;dsimp only[Pf.cells,Sl.v]at hM;refine qj ?_;go_wp2_with(first|refine zC ?_|(go_at_call 169;(with_reducible refine Bq hM (uZ hM HP _ _) ?_ ?_)<;>(clear hM;first|(intro q W1 hq hz hz1 hM)|(intro W1 HK hM)))|(go_at_call 170;(with_reducible refine cx hM (Vi _ _ _ _ _ _ _ _ (by have:=HK.out.a2;omega) (by have:=HK.out.a12;omega) HK.out.id (by first|assumption|exact zi _|exact ze _) (yx hM HP.out.al) (yx hM HP.out.id)) ?_);clear hM;rintro r W1 ⟨hr,-⟩ hM))
 all_goals first
  |(go_ret2;exact⟨(_,_),rfl,⟨zg,trivial⟩,hM.below⟩)
  |(go_ret2;exact⟨(_,_),rfl,⟨qY,trivial⟩,hM.below⟩)
theorem FQ(p:Pf)(x:Int)(w:World)(hx:qz x)(HP:Hid (Qx w p)):Calls Tryz.prog 110 #[.agg p.cells.toArray,Iv x] w (tR (fun _ _=>True) w):=by
 have hM:=qo w;go_enter Tryz.func110,Tryz.ntmps110;go_upto_region 1 with(first|(refine qe ?_;clear hM;intro g W hM));obtain⟨gp,rfl⟩:=uC hM;dsimp only[Pf.cells,Sl.v]at hM;refine qj ?_;go_wp2_with(first|refine zC ?_|(go_at_call 169;(with_reducible refine Bq hM (uZ hM HP _ _) ?_ ?_)<;>(clear hM;first|(intro q W1 hq hz hz1 hM)|(intro W1 HK hM)))|(go_at_call 170;(with_reducible refine cx hM (Vi _ _ _ _ _ _ _ _ (by have:=HK.out.a2;omega) (by have:=HK.out.a12;omega) HK.out.xs (by first|assumption|exact zi _|exact ze _) (yx hM HP.out.al) (yx hM HP.out.xs)) ?_);clear hM;rintro r W1 ⟨hr,-⟩ hM))
 all_goals first
  |(go_ret2;exact⟨(_,_),rfl,⟨zg,trivial⟩,hM.below⟩)
  |(go_ret2;exact⟨(_,_),rfl,⟨qY,trivial⟩,hM.below⟩)
theorem lu(p:Pf)(x:Int)(w:World)(hx:qz x)(HP:Hid (Qx w p)):Calls Tryz.prog 108 #[.agg p.cells.toArray,Iv x] w (tR (fun _ _=>True) w):=by
 have hM:=qo w;go_enter Tryz.func108,Tryz.ntmps108;go_upto_region 1 with(first|(refine qe ?_;clear hM;intro g W hM));obtain⟨gp,rfl⟩:=uC hM;dsimp only[Pf.cells,Sl.v]at hM;refine qj ?_;go_wp2_with(first|refine zC ?_|(go_at_call 169;(with_reducible refine Bq hM (uZ hM HP _ _) ?_ ?_)<;>(clear hM;first|(intro q W1 hq hz hz1 hM)|(intro W1 HK hM)))|(go_at_call 170;(with_reducible refine cx hM (Vi _ _ _ _ _ _ _ _ (by have:=HK.out.m2;omega) (by have:=HK.out.m6;omega) HK.out.ns (by first|assumption|exact zi _|exact ze _) (yx hM HP.out.ms) (yx hM HP.out.ns)) ?_);clear hM;rintro r W1 ⟨hr,-⟩ hM))
 all_goals first
  |(go_ret2;exact⟨(_,_),rfl,⟨zg,trivial⟩,hM.below⟩)
  |(go_ret2;exact⟨(_,_),rfl,⟨qY,trivial⟩,hM.below⟩)
theorem QM(p:Pf)(x y:Int)(w:World)(hx:qz x)(hy:qz y)(HP:Hid (Qx w p)):Calls Tryz.prog 195 #[.agg p.cells.toArray,Iv x,Iv y] w (tR (fun _ _=>True) w):=by
 have hM:=qo w;go_enter Tryz.func195,Tryz.ntmps195;go_upto_region 1 with(first|(refine qe ?_;clear hM;intro g W hM));obtain⟨gp,rfl⟩:=uC hM;dsimp only[Pf.cells,Sl.v]at hM;refine qj ?_;go_wp2_with(first|refine zC ?_|(go_at_call 169;(with_reducible refine Bq hM (uZ hM HP _ _) ?_ ?_)<;>(clear hM;first|(intro q W1 hq hz hz1 hM)|(intro W1 HK hM)))|(go_at_call 173;(with_reducible refine cx hM (Bh p p.cf _ _ _ (hide (jR hM HP.out)) (hide (VV hM HP.out HK.out)) (by first|assumption|exact zi _|exact ze _) (by first|assumption|exact zi _|exact ze _) (Zk hM HP.out.cf) (Zl hM HP.out.cf HK.out.cf)) ?_);clear hM;rintro r W1 ⟨hr,-⟩ hM))
 all_goals first
  |(go_ret2;exact⟨(_,_),rfl,⟨zg,trivial⟩,hM.below⟩)
  |(go_ret2;exact⟨(_,_),rfl,⟨qY,trivial⟩,hM.below⟩)
theorem Qa(p:Pf)(x y z:Int)(w:World)(hx:qz x)(hy:qz y)(HP:Hid (Qx w p)):Calls Tryz.prog 196 #[.agg p.cells.toArray,Iv x,Iv y,Iv z] w (tR (fun _ _=>True) w):=by
 have hM:=qo w;go_enter Tryz.func196,Tryz.ntmps196;go_upto_region 1 with(first|(refine qe ?_;clear hM;intro g W hM));obtain⟨gp,rfl⟩:=uC hM;dsimp only[Pf.cells,Sl.v]at hM;refine qj ?_;go_upto_region 6 with(first|refine zC ?_|(go_at_call 169;(with_reducible refine Bq hM (uZ hM HP _ _) ?_ ?_)<;>(clear hM;first|(intro q W1 hq hz hz1 hM)|(intro W1 HK hM)))|(go_at_call 172;(with_reducible refine uD hM (xy _ _ _ _) ?_ ?_)<;>(clear hM;intro W1 hb hM)))
 all_goals first
  |(go_ret2;exact⟨(_,_),rfl,⟨zg,trivial⟩,hM.below⟩)
  |skip
 refine qj ?_;go_cut [11] (fun s wx=>∃v,s=Iv v∧qz v∧qF w wx [(gp,[.string p.nm,Iv p.em,Iv p.mf,.slice p.al.S p.al.n p.al.c,.slice p.ms.S p.ms.n p.ms.c,.slice p.cl.S p.cl.n p.cl.c,.slice p.cf.S p.cf.n p.cf.c,.slice p.cr.S p.cr.n p.cr.c,.slice p.de.S p.de.n p.de.c,.slice p.id.S p.id.n p.id.c,.slice p.xs.S p.xs.n p.xs.c,.slice p.ns.S p.ns.n p.ns.c,Iv p.rf,Iv p.ex,Iv p.ce],35)])
 case first=>
  refine qA [(gp,[.string p.nm,Iv p.em,Iv p.mf,.slice p.al.S p.al.n p.al.c,.slice p.ms.S p.ms.n p.ms.c,.slice p.cl.S p.cl.n p.cl.c,.slice p.cf.S p.cf.n p.cf.c,.slice p.cr.S p.cr.n p.cr.c,.slice p.de.S p.de.n p.de.c,.slice p.id.S p.id.n p.id.c,.slice p.xs.S p.xs.n p.xs.c,.slice p.ns.S p.ns.n p.ns.c,Iv p.rf,Iv p.ex,Iv p.ce],35)] hM qM ?_;(clear hM;intro W hM);refine rD 0 ?_;refine rD 1 ?_;refine rD 2 ?_;refine rD 3 ?_;refine rD 4 ?_;refine rD 6 ?_;refine rD 7 ?_;refine rD 8 ?_;refine rD 9 ?_;refine rD 10 ?_;refine rD 11 ?_;refine rD 12 ?_;refine rD 13 ?_;refine rD 14 ?_;refine dC 5 (fun K' hK'=> ?_);go_wp2_with(first|(go_at_call 173;(with_reducible refine cx hM (Bh p p.cr _ _ _ (hide (jR hM HP.out)) (hide (VV hM HP.out HK.out)) (by first|assumption|exact zi _|exact ze _) (by first|assumption|exact zi _|exact ze _) (Zk hM HP.out.cr) (Zl hM HP.out.cr HK.out.cr)) ?_);clear hM;rintro r W1 ⟨hr,-⟩ hM));refine rK hK' hM ?_;clear hK' K';refine rD 15 ?_;refine rD 16 ?_;refine rD 17 ?_;refine qp qM ?_;go_wp2_with fail
  all_goals
   go_meet;exact⟨_,rfl,by first|exact zi _|exact ze _,hM⟩
 case rest=>
 clear hM;obtain⟨v,rfl,hv,hM⟩:=hcut;go_wp2_with(first|refine zC ?_)
 all_goals(go_ret2;exact⟨(_,_),rfl,⟨vu hv ⟨qG,qG⟩,trivial⟩,hM.below⟩)
theorem FT(p:Pf)(x y z:Int)(w:World)(hx:qz x)(hy:qz y)(HP:Hid (Qx w p)):Calls Tryz.prog 105 #[.agg p.cells.toArray,Iv x,Iv y,Iv z] w (tR (fun _ _=>True) w):=by
 have hce:=HP.out.ce;have hM:=qo w;go_enter Tryz.func105,Tryz.ntmps105;go_upto_region 1 with(first|(refine qe ?_;clear hM;intro g W hM));obtain⟨gp,rfl⟩:=uC hM;dsimp only[Pf.cells,Sl.v]at hM;refine qj ?_;go_wp2_with(first|refine zC ?_|(go_at_call 169;(with_reducible refine Bq hM (uZ hM HP _ _) ?_ ?_)<;>(clear hM;first|(intro q W1 hq hz hz1 hM)|(intro W1 HK hM)))|(go_at_call 172;(with_reducible refine uD hM (xy _ _ _ _) ?_ ?_)<;>(clear hM;intro W1 hb hM)))
 all_goals first
  |(go_ret2;exact⟨(_,_),rfl,⟨zg,trivial⟩,hM.below⟩)
  |skip
 have hzz:0≤z∧z≤50000:=by have:=hb.out;simpa using this
 clear hb;go_loopw [1,3] (fun s1 s3 wx=>∃a t:Int,s1=Iv a∧s3=Iv t∧qz a∧0≤t∧t≤50000∧qF w wx [(gp,[.string p.nm,Iv p.em,Iv p.mf,.slice p.al.S p.al.n p.al.c,.slice p.ms.S p.ms.n p.ms.c,.slice p.cl.S p.cl.n p.cl.c,.slice p.cf.S p.cf.n p.cf.c,.slice p.cr.S p.cr.n p.cr.c,.slice p.de.S p.de.n p.de.c,.slice p.id.S p.id.n p.id.c,.slice p.xs.S p.xs.n p.xs.c,.slice p.ns.S p.ns.n p.ns.c,Iv p.rf,Iv p.ex,Iv p.ce],35)]) (fun _ s3 _=>(intOf s3).toNat)
 case atStart=>exact⟨x,z,rfl,rfl,hx,hzz.1,hzz.2,hM⟩
 case round=>
  clear hM;obtain⟨a,t,rfl,rfl,ha,ht,ht2,hM⟩:=hrel;have w1:=IntWalk.i64_in (t-1) qg;go_wp2_with(first|refine zC ?_|(go_at_call 173;(with_reducible refine cx hM (Bh p p.cl _ _ _ (hide (jR hM HP.out)) (hide (VV hM HP.out HK.out)) (by first|assumption|exact zi _|exact ze _) (by first|assumption|exact zi _|exact ze _) (Zk hM HP.out.cl) (Zl hM HP.out.cl HK.out.cl)) ?_);clear hM;rintro r W1 ⟨hr,-⟩ hM))
  all_goals first
   |(go_ret2;exact⟨(_,_),rfl,⟨qY,trivial⟩,hM.below⟩)
   |(go_roundw
     case rel=>exact⟨_,t-1,rfl,by go_num,vu (by first|exact zi _|exact ze _) hce,by omega,by omega,hM⟩
     case measure=>simp[intOf];omega)
end Go.Proofs.YtiegohjobhehcaaGreatDoor
