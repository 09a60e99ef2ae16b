/-
  Tightened windows.
-/
import Derived.Test.YtiegohjobhehcaaGreatDoorMCons
import Derived.Test.YtiegohjobhehcaaGreatDoorMLineD
namespace Go.Proofs.YtiegohjobhehcaaGreatDoor
open Go.RowKit
set_option linter.unusedVariables false
set_option linter.unusedSimpArgs false
theorem Ze:yw Tryz.prog 55 2 16:=by unfold yw;kernel_rfl
theorem mR(l:List (Int×Int)):lp l.length (pq l)=l:=by
 apply List.ext_getElem?;intro k;unfold lp;rw[List.getElem?_map];by_cases h:k<l.length
 ·rw[List.getElem?_range h]
  show some (pq l k)=_
  unfold pq;rw[List.getD_eq_getElem?_getD,List.getElem?_eq_getElem h];rfl
 ·rw[List.getElem?_eq_none (by simpa using h),List.getElem?_eq_none qg];rfl
def RW(ws st:List (Int×Int))(cs:List Value)(v:List (Int×Int)):Prop:=PL cs v∧TG ws st v
theorem eD{ws st v:List (Int×Int)}{cs:List Value}(h:RW ws st cs v){i:Nat}{x:Int}(hi:i<ws.length)(hx:qz x)(ht:TG ws st (v.set i ((pq v i).1,x))):RW ws st (jg cs (i*2+1) [Iv x]) (v.set i ((pq v i).1,x)):=
 ⟨Wf h.1 (by rw[h.2.len];exact hi) hx,ht⟩
theorem DQ{ws st v:List (Int×Int)}{cs:List Value}(h:RW ws st cs v){i:Nat}{x:Int}(hi:i<ws.length)(hx:qz x):RW ws st (jg cs (i*2) [Iv x]) (v.set i (x,(pq v i).2)):=
 ⟨Ea h.1 (by rw[h.2.len];exact hi) hx,EA h.2 hi⟩
theorem zT{x y:Int}(h:x=y)(hb: -9223372036854775808≤y∧y≤9223372036854775807):IntKind.i64.wrap x=y:=by rw[h];exact IntWalk.i64_in _ qg
set_option maxRecDepth 100000 in
set_option maxHeartbeats 8000000 in
theorem fB(S T:Option Addr)(ws st:List (Int×Int))(c d:Nat)(w:World)(hn:0<ws.length)(hwl:ws.length≤1000000)(hsl:st.length≤1000000)(hsd:st.length≤d)(hd63:d≤9223372036854775807)(HS:Hid (zY w S ws.length (pq ws)))(HT:Hid (zY w T st.length (pq st))):Calls Tryz.prog 209 #[.slice S ws.length c,.slice T st.length d] w
 (KI 55 ws.length (fun cs=>∃v,RW ws st cs v) w):=by
 have hM:=qo w;obtain⟨b,o,rfl,-⟩:=HS.out 0 hn;go_enter Tryz.func209,Tryz.ntmps209;go_upto_region 6 with(first|(refine qe ?_;clear hM;intro g W hM)|(go_at_call 107;(with_reducible refine Nm (ws:=ws) (st:=st) hM (DP (some ⟨b,o,none⟩) T ws st c d _ qg qg hsd hd63 (hide (zj hM HS.out)) (hide (zj hM HT.out))) ?_ ?_ ?_)<;>(clear hM;first|(rintro S n cap W1 hln- -hM)|(rintro V q W1 hqi hq1 hq2 hM)|(rintro S cap W1 HK HN hM))))
 all_goals first
  |(go_ret2;exact .inl ⟨_,rfl,⟨hqi,hq1,hq2⟩,hM.below⟩)
  |(go_ret2;exact .inl ⟨11,rfl,⟨⟨qG,qG⟩,rfl,rfl⟩,hM.below⟩)
  |skip
 have hn64:=HK.out.le;have hmn:=hide HK.out.eq;have HW:=hide HK.out.ws;have HSt:Hid (KL st):=hide (eu HK.out.st);clear HK;go_upto_region 7 with(first|((with_reducible refine kD ?_);refine GW hM rfl rfl rfl rfl Tryz.underlying130 Ze (zj hM HS.out) hn qg (by(unfold maxLen;omega)) ?_;clear hM;intro gw capw cs W HPL hcap hM)|(refine qe ?_;clear hM;intro g W hM));rw[mR]at HPL;have HR:Hid (RW ws st cs ws):=hide ⟨HPL,Pd HN.out⟩;clear HPL HN;obtain⟨v,hv⟩:∃v,v=ws:=⟨_,rfl⟩;rw[←hv]at HR;rw[show RW v st cs v=RW ws st cs v by rw[hv]]at HR;clear hv;go_wp2_with(first|(refine qe ?_;clear hM;intro g W hM));go_loopw [9] (fun s wx=>∃(i:Nat) (cs:List Value) (v:List (Int×Int)),i<ws.length∧s=Iv ((i:Int)+1)∧Hid (RW ws st cs v)∧qF w wx [(gw,cs,55)]) (fun s _=>ws.length+1-(intOf s).toNat)
 case atStart=>exact⟨0,cs,v,hn,rfl,HR,hM⟩
 case round=>
  clear hM HR;obtain⟨i,cs,v,hin,rfl,HR,hM⟩:=hrel;by_cases hi:i+1<ws.length
  ·have hi1:(i:Int)+1<(ws.length:Int):=qg;obtain⟨bt,ot,rfl,-⟩:=HT.out 0 (by have:=hmn.out;omega);have wi:=IntWalk.i64_in ((i:Int)+1+1) qg;have wm:=zT (x:=(i:Int)+1-1) (y:=(i:Int)) qg qg;go_upto_region 10 with(first|(refine qe ?_;clear hM;intro g W hM));refine qj ?_;go_cut [] (fun wx=>∃(cs:List Value) (v:List (Int×Int)),Hid (RW ws st cs v)∧qF w wx [(gw,cs,55)])
   case first=>
    as_aux_lemma=>
     have h1:=HR.out.1.at_ (i+1) (by rw[HR.out.2.len];omega);have h0:=HR.out.1.at_ i (by rw[HR.out.2.len];omega);have hu:=ve HT.out (k:=i) (by have:=hmn.out;omega);have his:i<st.length:=by have:=hmn.out;omega
     have i1:=HR.out.1.i64 (i+1) (by rw[HR.out.2.len];omega);have i0:=HR.out.1.i64 i (by rw[HR.out.2.len];omega);have hs:=JR HSt.out i;have hlen:(i+1)*2+1<cs.length:=by have:=HR.out.1.le;rw[HR.out.2.len]at this;omega
     have HX:=hide h1.2;have HY:=hide h0.2;have hu0:=hu.1 0 _ rfl;rw[Nat.add_zero]at hu0;have HU:=hide hu0;clear hu0;have t1:=cF HR.out.2 HW.out (k:=(i+1)) qg;have t0:=cF HR.out.2 HW.out (k:=i) qg;have tn:=Ez HSt.out HR.out.2 (i:=i) qg (x:=(pq v (i+1)).1);have HN2:=hide (eD HR.out qg yq tn);clear h1 h0 hu i1 i0;clear tn;obtain⟨x,hx⟩:∃x,(pq v (i+1)).2=x:=⟨_,rfl⟩;obtain⟨y,hy⟩:∃y,(pq v i).2=y:=⟨_,rfl⟩;obtain⟨u,hu⟩:∃u,(pq st i).1=u:=⟨_,rfl⟩;rw[hx]at HX;rw[hy]at HY;rw[hu]at HU hs;rw[hx]at t1;rw[hy]at t0;rw[hx,hy,hu]at HN2;have wy:=IntWalk.i64_in (y+u) qg;clear t1 t0;clear hx hy hu hs;refine qA [] hM qM ?_;(clear hM;intro W hM);refine rD 0 ?_;refine rD 1 ?_;refine rD 2 ?_;refine rD 3 ?_;refine dP 4 (v:= .pointer (some ⟨gw,(i+1)*2,none⟩)) hM ?_ (hv:=by(intro W0;go_simp;first|done|omega|(intro h;exact absurd h qg)));refine qj ?_;refine rD 5 ?_;refine rD 7 ?_;refine rD 8 ?_;refine dP 9 (v:=Iv ((i:Int))) hM ?_ (hv:=by(intro W0;go_simp<;>first|assumption|rfl|exact zT qg qg));refine qj ?_;refine dP 10 (v:= .pointer (some ⟨gw,i*2,none⟩)) hM ?_ (hv:=by(intro W0;go_simp;first|done|omega|(intro h;exact absurd h qg)));refine qj ?_;refine rD 11 ?_;refine rD 13 ?_;refine rD 14 ?_;refine dP 15 (v:=Iv ((i:Int))) hM ?_ (hv:=by(intro W0;go_simp<;>first|assumption|rfl|exact zT qg qg));refine qj ?_;refine dP 16 (v:= .pointer (some ⟨bt,ot+i*2,none⟩)) hM ?_ (hv:=by(intro W0;go_simp;first|done|omega|(intro h;exact absurd h qg)));refine qj ?_;refine rD 17 ?_;refine jk 18 hM (HU.out) ?_;refine qj ?_;refine dT 6 12 (fun K' hK'=> ?_) (fun K' hK'=> ?_)
     ·
      refine oL hM ?_ (hv:=HX.out);refine rK hK' hM ?_;clear hK' K';refine dC 12 (fun K' hK'=> ?_);refine oL hM ?_ (hv:=HY.out);refine rK hK' hM ?_;clear hK' K';refine dP 19 (v:=Iv (y+u)) hM ?_ (hv:=by(intro W0;go_simp<;>first|assumption|rfl|exact zT qg qg));refine qj ?_;refine rD 20 ?_;refine dP 21 (v:= .pointer (some ⟨gw,(i+1)*2,none⟩)) hM ?_ (hv:=by(intro W0;go_simp;first|done|omega|(intro h;exact absurd h qg)));refine qj ?_;refine rD 22 ?_;refine dC 23 (fun K' hK'=> ?_);refine Mz hM hlen ?_;clear hM;intro W hM;refine rK hK' hM ?_;clear hK' K';refine qp qM ?_;go_wp2_with fail
      all_goals
       go_meet;exact⟨_,_,HN2,hM⟩
     ·
      refine oL hM ?_ (hv:=HY.out);refine rK hK' hM ?_;clear hK' K';refine dP 19 (v:=Iv (y+u)) hM ?_ (hv:=by(intro W0;go_simp<;>first|assumption|rfl|exact zT qg qg));refine qj ?_;refine dC 6 (fun K' hK'=> ?_);refine oL hM ?_ (hv:=HX.out);refine rK hK' hM ?_;clear hK' K';refine rD 20 ?_;refine dP 21 (v:= .pointer (some ⟨gw,(i+1)*2,none⟩)) hM ?_ (hv:=by(intro W0;go_simp;first|done|omega|(intro h;exact absurd h qg)));refine qj ?_;refine rD 22 ?_;refine dC 23 (fun K' hK'=> ?_);refine Mz hM hlen ?_;clear hM;intro W hM;refine rK hK' hM ?_;clear hK' K';refine qp qM ?_;go_wp2_with fail
      all_goals
       go_meet;exact⟨_,_,HN2,hM⟩
   case rest=>
   clear hM HR;obtain⟨cs,v,HR,hM⟩:=hcut;go_upto_region 11 with(first|(refine qe ?_;clear hM;intro g W hM));refine qj ?_;have h1:=HR.out.1.at_ (i+1) (by rw[HR.out.2.len];omega);have h0:=HR.out.1.at_ i (by rw[HR.out.2.len];omega);have hu:=ve HT.out (k:=i) (by have:=hmn.out;omega);have his:i<st.length:=by have:=hmn.out;omega
   have i1:=HR.out.1.i64 (i+1) (by rw[HR.out.2.len];omega);have i0:=HR.out.1.i64 i (by rw[HR.out.2.len];omega);have hs:=JR HSt.out i;have hlen:(i+1)*2<cs.length:=by have:=HR.out.1.le;rw[HR.out.2.len]at this;omega
   have HX:=hide h1.1;have HY:=hide h0.1;have HU:=hide (hu.1 1 _ rfl);have HN2:=hide (DQ HR.out (i:=(i+1)) (x:=max (pq v (i+1)).1 (IntKind.i64.wrap ((pq v i).1-(pq st i).2))) qg (ut i1.1 (ze _)));clear h1 h0 hu i1 i0;obtain⟨x,hx⟩:∃x,(pq v (i+1)).1=x:=⟨_,rfl⟩;obtain⟨y,hy⟩:∃y,(pq v i).1=y:=⟨_,rfl⟩;obtain⟨u,hu⟩:∃u,(pq st i).2=u:=⟨_,rfl⟩;rw[hx]at HX;rw[hy]at HY;rw[hu]at HU hs;rw[hx,hy,hu]at HN2;clear hx hy hu hs;refine qA [] hM qM ?_;(clear hM;intro W hM);refine rD 0 ?_;refine rD 1 ?_;refine rD 2 ?_;refine rD 3 ?_;refine dP 4 (v:= .pointer (some ⟨gw,(i+1)*2,none⟩)) hM ?_ (hv:=by(intro W0;go_simp;first|done|omega|(intro h;exact absurd h qg)));refine qj ?_;refine rD 5 ?_;refine rD 7 ?_;refine rD 8 ?_;refine dP 9 (v:=Iv ((i:Int))) hM ?_ (hv:=by(intro W0;go_simp<;>first|assumption|rfl|exact zT qg qg));refine qj ?_;refine dP 10 (v:= .pointer (some ⟨gw,i*2,none⟩)) hM ?_ (hv:=by(intro W0;go_simp;first|done|omega|(intro h;exact absurd h qg)));refine qj ?_;refine rD 11 ?_;refine rD 13 ?_;refine rD 14 ?_;refine dP 15 (v:=Iv ((i:Int))) hM ?_ (hv:=by(intro W0;go_simp<;>first|assumption|rfl|exact zT qg qg));refine qj ?_;refine dP 16 (v:= .pointer (some ⟨bt,ot+i*2,none⟩)) hM ?_ (hv:=by(intro W0;go_simp;first|done|omega|(intro h;exact absurd h qg)));refine qj ?_;refine rD 17 ?_;refine jk 18 hM (HU.out) ?_;refine qj ?_;refine dT 6 12 (fun K' hK'=> ?_) (fun K' hK'=> ?_)
   ·
    refine oL hM ?_ (hv:=HX.out);refine rK hK' hM ?_;clear hK' K';refine dC 12 (fun K' hK'=> ?_);refine oL hM ?_ (hv:=HY.out);refine rK hK' hM ?_;clear hK' K';refine dP 19 (v:=Iv (IntKind.i64.wrap (y-u))) hM ?_ (hv:=by(intro W0;go_simp<;>first|assumption|rfl|exact zT qg qg));refine qj ?_;refine rD 20 ?_;refine dP 21 (v:= .pointer (some ⟨gw,(i+1)*2,none⟩)) hM ?_ (hv:=by(intro W0;go_simp;first|done|omega|(intro h;exact absurd h qg)));refine qj ?_;refine rD 22 ?_;refine dC 23 (fun K' hK'=> ?_);refine Mz hM hlen ?_;clear hM;intro W hM;refine rK hK' hM ?_;clear hK' K';refine qp qM ?_;go_wp2_with fail
    all_goals
     (go_roundw
      case rel=>exact⟨i+1,_,_,by omega,by go_num,HN2,hM⟩
      case measure=>simp[intOf]<;>omega)
   ·
    refine oL hM ?_ (hv:=HY.out);refine rK hK' hM ?_;clear hK' K';refine dP 19 (v:=Iv (IntKind.i64.wrap (y-u))) hM ?_ (hv:=by(intro W0;go_simp<;>first|assumption|rfl|exact zT qg qg));refine qj ?_;refine dC 6 (fun K' hK'=> ?_);refine oL hM ?_ (hv:=HX.out);refine rK hK' hM ?_;clear hK' K';refine rD 20 ?_;refine dP 21 (v:= .pointer (some ⟨gw,(i+1)*2,none⟩)) hM ?_ (hv:=by(intro W0;go_simp;first|done|omega|(intro h;exact absurd h qg)));refine qj ?_;refine rD 22 ?_;refine dC 23 (fun K' hK'=> ?_);refine Mz hM hlen ?_;clear hM;intro W hM;refine rK hK' hM ?_;clear hK' K';refine qp qM ?_;go_wp2_with fail
    all_goals
     (go_roundw
      case rel=>exact⟨i+1,_,_,by omega,by go_num,HN2,hM⟩
      case measure=>simp[intOf]<;>omega)
  ·have hi1:¬((i:Int)+1<(ws.length:Int)):=qg;have w2:=zT (x:=(ws.length:Int)-2) (y:=((ws.length-1:Nat):Int)-1) qg qg;clear hi;go_wp2_with(first|(refine qe ?_;clear hM;intro g W hM));go_loopw [10] (fun s wx=>∃(i:Nat) (cs:List Value) (v:List (Int×Int)),i<ws.length∧s=Iv ((i:Int)-1)∧Hid (RW ws st cs v)∧qF w wx [(gw,cs,55)]) (fun s _=>(intOf s+1).toNat)
   case atStart=>exact⟨ws.length-1,cs,v,by omega,rfl,HR,hM⟩
   case round=>
    clear hM HR hi1 w2 hin;obtain⟨i,cs,v,hin,rfl,HR,hM⟩:=hrel;rcases i with _|k
    ·go_wp2_with(first|(refine qe ?_;clear hM;intro g W hM))
     all_goals(go_ret2;exact .inr ⟨gw,capw,cs,rfl,hcap,⟨v,HR.out⟩,hM⟩)
    ·have e1:((k+1:Nat):Int)-1=(k:Int):=qg;rw[e1];clear e1;have hk0:(0:Int)≤(k:Int):=qg;obtain⟨bt,ot,rfl,-⟩:=HT.out 0 (by have:=hmn.out;omega);have wk:=zT (x:=(k:Int)-1) (y:=(k:Int)-1) rfl qg;have wp:=zT (x:=(k:Int)+1) (y:=((k+1:Nat):Int)) qg qg;go_upto_region 15 with(first|(refine qe ?_;clear hM;intro g W hM));refine qj ?_;go_cut [] (fun wx=>∃(cs:List Value) (v:List (Int×Int)),Hid (RW ws st cs v)∧qF w wx [(gw,cs,55)])
     case first=>
      as_aux_lemma=>
       have h1:=HR.out.1.at_ k (by rw[HR.out.2.len];omega);have h0:=HR.out.1.at_ (k+1) (by rw[HR.out.2.len];omega);have hu:=ve HT.out (k:=k) (by have:=hmn.out;omega);have his:k<st.length:=by have:=hmn.out;omega
       have i1:=HR.out.1.i64 k (by rw[HR.out.2.len];omega);have i0:=HR.out.1.i64 (k+1) (by rw[HR.out.2.len];omega);have hs:=JR HSt.out k;have hlen:k*2+1<cs.length:=by have:=HR.out.1.le;rw[HR.out.2.len]at this;omega
       have HX:=hide h1.2;have HY:=hide h0.2;have HU:=hide (hu.1 1 _ rfl);have t1:=cF HR.out.2 HW.out (k:=k) qg;have t0:=cF HR.out.2 HW.out (k:=(k+1)) qg;have tn:=Du HSt.out HR.out.2 (i:=k) qg (x:=(pq v k).1);have HN2:=hide (eD HR.out qg yq tn);clear h1 h0 hu i1 i0;clear tn;obtain⟨x,hx⟩:∃x,(pq v k).2=x:=⟨_,rfl⟩;obtain⟨y,hy⟩:∃y,(pq v (k+1)).2=y:=⟨_,rfl⟩;obtain⟨u,hu⟩:∃u,(pq st k).2=u:=⟨_,rfl⟩;rw[hx]at HX;rw[hy]at HY;rw[hu]at HU hs;rw[hx]at t1;rw[hy]at t0;rw[hx,hy,hu]at HN2;have wy:=IntWalk.i64_in (y+u) qg;clear t1 t0;clear hx hy hu hs;refine qA [] hM qM ?_;(clear hM;intro W hM);refine rD 0 ?_;refine rD 1 ?_;refine rD 2 ?_;refine rD 3 ?_;refine dP 4 (v:= .pointer (some ⟨gw,k*2,none⟩)) hM ?_ (hv:=by(intro W0;go_simp;first|done|omega|(intro h;exact absurd h qg)));refine qj ?_;refine rD 5 ?_;refine rD 7 ?_;refine rD 8 ?_;refine dP 9 (v:=Iv (((k+1:Nat):Int))) hM ?_ (hv:=by(intro W0;go_simp<;>first|assumption|rfl|exact zT qg qg));refine qj ?_;refine dP 10 (v:= .pointer (some ⟨gw,(k+1)*2,none⟩)) hM ?_ (hv:=by(intro W0;go_simp;first|done|omega|(intro h;exact absurd h qg)));refine qj ?_;refine rD 11 ?_;refine rD 13 ?_;refine rD 14 ?_;refine dP 15 (v:= .pointer (some ⟨bt,ot+k*2,none⟩)) hM ?_ (hv:=by(intro W0;go_simp;first|done|omega|(intro h;exact absurd h qg)));refine qj ?_;refine rD 16 ?_;refine jk 17 hM (HU.out) ?_;refine qj ?_;refine dT 6 12 (fun K' hK'=> ?_) (fun K' hK'=> ?_)
       ·
        refine oL hM ?_ (hv:=HX.out);refine rK hK' hM ?_;clear hK' K';refine dC 12 (fun K' hK'=> ?_);refine oL hM ?_ (hv:=HY.out);refine rK hK' hM ?_;clear hK' K';refine dP 18 (v:=Iv (y+u)) hM ?_ (hv:=by(intro W0;go_simp<;>first|assumption|rfl|exact zT qg qg));refine qj ?_;refine rD 19 ?_;refine dP 20 (v:= .pointer (some ⟨gw,k*2,none⟩)) hM ?_ (hv:=by(intro W0;go_simp;first|done|omega|(intro h;exact absurd h qg)));refine qj ?_;refine rD 21 ?_;refine dC 22 (fun K' hK'=> ?_);refine Mz hM hlen ?_;clear hM;intro W hM;refine rK hK' hM ?_;clear hK' K';refine qp qM ?_;go_wp2_with fail
        all_goals
         go_meet;exact⟨_,_,HN2,hM⟩
       ·
        refine oL hM ?_ (hv:=HY.out);refine rK hK' hM ?_;clear hK' K';refine dP 18 (v:=Iv (y+u)) hM ?_ (hv:=by(intro W0;go_simp<;>first|assumption|rfl|exact zT qg qg));refine qj ?_;refine dC 6 (fun K' hK'=> ?_);refine oL hM ?_ (hv:=HX.out);refine rK hK' hM ?_;clear hK' K';refine rD 19 ?_;refine dP 20 (v:= .pointer (some ⟨gw,k*2,none⟩)) hM ?_ (hv:=by(intro W0;go_simp;first|done|omega|(intro h;exact absurd h qg)));refine qj ?_;refine rD 21 ?_;refine dC 22 (fun K' hK'=> ?_);refine Mz hM hlen ?_;clear hM;intro W hM;refine rK hK' hM ?_;clear hK' K';refine qp qM ?_;go_wp2_with fail
        all_goals
         go_meet;exact⟨_,_,HN2,hM⟩
     case rest=>
     clear hM HR;obtain⟨cs,v,HR,hM⟩:=hcut;go_upto_region 16 with(first|(refine qe ?_;clear hM;intro g W hM));refine qj ?_;have h1:=HR.out.1.at_ k (by rw[HR.out.2.len];omega);have h0:=HR.out.1.at_ (k+1) (by rw[HR.out.2.len];omega);have hu:=ve HT.out (k:=k) (by have:=hmn.out;omega);have his:k<st.length:=by have:=hmn.out;omega
     have i1:=HR.out.1.i64 k (by rw[HR.out.2.len];omega);have i0:=HR.out.1.i64 (k+1) (by rw[HR.out.2.len];omega);have hs:=JR HSt.out k;have hlen:k*2<cs.length:=by have:=HR.out.1.le;rw[HR.out.2.len]at this;omega
     have HX:=hide h1.1;have HY:=hide h0.1;have hu0:=hu.1 0 _ rfl;rw[Nat.add_zero]at hu0;have HU:=hide hu0;clear hu0;have HN2:=hide (DQ HR.out (i:=k) (x:=max (pq v k).1 (IntKind.i64.wrap ((pq v (k+1)).1-(pq st k).1))) qg (ut i1.1 (ze _)));clear h1 h0 hu i1 i0;obtain⟨x,hx⟩:∃x,(pq v k).1=x:=⟨_,rfl⟩;obtain⟨y,hy⟩:∃y,(pq v (k+1)).1=y:=⟨_,rfl⟩;obtain⟨u,hu⟩:∃u,(pq st k).1=u:=⟨_,rfl⟩;rw[hx]at HX;rw[hy]at HY;rw[hu]at HU hs;rw[hx,hy,hu]at HN2;clear hx hy hu hs;refine qA [] hM qM ?_;(clear hM;intro W hM);refine rD 0 ?_;refine rD 1 ?_;refine rD 2 ?_;refine rD 3 ?_;refine dP 4 (v:= .pointer (some ⟨gw,k*2,none⟩)) hM ?_ (hv:=by(intro W0;go_simp;first|done|omega|(intro h;exact absurd h qg)));refine qj ?_;refine rD 5 ?_;refine rD 7 ?_;refine rD 8 ?_;refine dP 9 (v:=Iv (((k+1:Nat):Int))) hM ?_ (hv:=by(intro W0;go_simp<;>first|assumption|rfl|exact zT qg qg));refine qj ?_;refine dP 10 (v:= .pointer (some ⟨gw,(k+1)*2,none⟩)) hM ?_ (hv:=by(intro W0;go_simp;first|done|omega|(intro h;exact absurd h qg)));refine qj ?_;refine rD 11 ?_;refine rD 13 ?_;refine rD 14 ?_;refine dP 15 (v:= .pointer (some ⟨bt,ot+k*2,none⟩)) hM ?_ (hv:=by(intro W0;go_simp;first|done|omega|(intro h;exact absurd h qg)));refine qj ?_;refine rD 16 ?_;refine jk 17 hM (HU.out) ?_;refine qj ?_;refine dT 6 12 (fun K' hK'=> ?_) (fun K' hK'=> ?_)
     ·
      refine oL hM ?_ (hv:=HX.out);refine rK hK' hM ?_;clear hK' K';refine dC 12 (fun K' hK'=> ?_);refine oL hM ?_ (hv:=HY.out);refine rK hK' hM ?_;clear hK' K';refine dP 18 (v:=Iv (IntKind.i64.wrap (y-u))) hM ?_ (hv:=by(intro W0;go_simp<;>first|assumption|rfl|exact zT qg qg));refine qj ?_;refine rD 19 ?_;refine dP 20 (v:= .pointer (some ⟨gw,k*2,none⟩)) hM ?_ (hv:=by(intro W0;go_simp;first|done|omega|(intro h;exact absurd h qg)));refine qj ?_;refine rD 21 ?_;refine dC 22 (fun K' hK'=> ?_);refine Mz hM hlen ?_;clear hM;intro W hM;refine rK hK' hM ?_;clear hK' K';refine qp qM ?_;go_wp2_with fail
      all_goals
       (go_roundw
        case rel=>exact⟨k,_,_,by omega,by go_num,HN2,hM⟩
        case measure=>simp[intOf]<;>omega)
     ·
      refine oL hM ?_ (hv:=HY.out);refine rK hK' hM ?_;clear hK' K';refine dP 18 (v:=Iv (IntKind.i64.wrap (y-u))) hM ?_ (hv:=by(intro W0;go_simp<;>first|assumption|rfl|exact zT qg qg));refine qj ?_;refine dC 6 (fun K' hK'=> ?_);refine oL hM ?_ (hv:=HX.out);refine rK hK' hM ?_;clear hK' K';refine rD 19 ?_;refine dP 20 (v:= .pointer (some ⟨gw,k*2,none⟩)) hM ?_ (hv:=by(intro W0;go_simp;first|done|omega|(intro h;exact absurd h qg)));refine qj ?_;refine rD 21 ?_;refine dC 22 (fun K' hK'=> ?_);refine Mz hM hlen ?_;clear hM;intro W hM;refine rK hK' hM ?_;clear hK' K';refine qp qM ?_;go_wp2_with fail
      all_goals
       (go_roundw
        case rel=>exact⟨k,_,_,by omega,by go_num,HN2,hM⟩
        case measure=>simp[intOf]<;>omega)
set_option maxRecDepth 100000
set_option maxHeartbeats 16000000
def rV(ws:List (Int×Int))(n:Nat)(f:Nat→Int):Prop:=∀k,k<n→(pq ws k).1≤f k∧f k≤(pq ws k).2
theorem Wo{ws:List (Int×Int)}{k:Nat}{f:Nat→Int}{x:Int}(h:rV ws k f)(hx:(pq ws k).1≤x∧x≤(pq ws k).2):rV ws (k+1) (upd f k x):=fun j hj=>by
 unfold upd;by_cases e:j=k
 ·subst e;rw[if_pos rfl];exact hx
 ·rw[if_neg e];exact h j qg
theorem Ef{ws st v:List (Int×Int)}{cs:List Value}(h:RW ws st cs v){k:Nat}(hk:k<ws.length):(pq ws k).1≤(pq v k).2∧(pq v k).2≤(pq ws k).2:=⟨dQ hk (h.2.hi k hk).1,(h.2.hi k hk).2⟩
theorem pR(S T:Option Addr)(ws st:List (Int×Int))(c d:Nat)(w:World)(hn:0<ws.length)(hwl:ws.length≤1000000)(hsl:st.length≤1000000)(hsd:st.length≤d)(hd63:d≤9223372036854775807)(HS:Hid (zY w S ws.length (pq ws)))(HT:Hid (zY w T st.length (pq st))):Calls Tryz.prog 176 #[.slice S ws.length c,.slice T st.length d] w
 (KI 2 ws.length (fun cs=>∃f,IL cs ws.length f∧rV ws ws.length f) w):=by
 have hM:=qo w;go_enter Tryz.func176,Tryz.ntmps176;go_upto_region 5 with(first|(go_at_call 209;(with_reducible refine Qf hM (fB S T ws st c d _ hn hwl hsl hsd hd63 (hide (zj hM HS.out)) (hide (zj hM HT.out))) ?_ ?_)<;>(clear hM;first|(rintro gw capw cw W1 hcap ⟨v,hv⟩ hM;have HV:=hide hv;clear hv)|(rintro q W1 ⟨hqi,hq1,hq2⟩ hM)))|((with_reducible refine EP ?_);refine GZ (n:=ws.length) hM rfl rfl rfl rfl qg ?_;clear hM;intro gm cs W hIL hM)|(refine qe ?_;clear hM;intro g W hM))
 all_goals first
  |(go_ret2;exact .inl ⟨_,rfl,⟨hqi,hq1,hq2⟩,hM.below⟩)
  |skip
 have HI:Hid (IL cs ws.length (fun _=>0)∧rV ws 0 (fun _=>0)):=hide ⟨hIL,fun k hk=>by omega⟩;clear hIL;go_wp2_with(first|(refine qe ?_;clear hM;intro g W hM));go_loopw [25] (fun s wx=>∃(k:Nat) (cs:List Value) (f:Nat→Int),k≤ws.length∧s=Iv (k:Int)∧Hid (IL cs ws.length f∧rV ws k f)∧qF w wx [(gm,cs,2),(gw,cw,55)]) (fun s _=>ws.length-(intOf s).toNat)
 case atStart=>exact⟨0,cs,_,by omega,rfl,HI,hM⟩
 case round=>
  clear hM HI;obtain⟨k,cs,f,hk,rfl,HI,hM⟩:=hrel;by_cases hlt:k<ws.length
  ·have HP:=hide (dJ HV.out.1 (k:=k) (by rw[HV.out.2.len];exact hlt));have hi:=(HV.out.1.i64 k (by rw[HV.out.2.len];exact hlt)).2;have hin:=Ef HV.out hlt;have hlen:k<cs.length:=by have:=HI.out.1.le;omega
   have HN:=hide (show IL (jg cs k [Iv (pq v k).2]) ws.length (upd f k (pq v k).2)∧rV ws (k+1) (upd f k (pq v k).2)from⟨Wg HI.out.1 hlt hi,Wo HI.out.2 hin⟩);obtain⟨x,hx⟩:∃x,(pq v k).1=x:=⟨_,rfl⟩;obtain⟨y,hy⟩:∃y,(pq v k).2=y:=⟨_,rfl⟩;rw[hx,hy]at HP;rw[hy]at HN;clear hx hy hi hin;go_wp2_with(first|((with_reducible refine lX ?_);refine GY hM rfl rfl (by first|exact rfl|(go_simp;done)) HP.out (Zg rfl) (bQ rfl) ?_)|((with_reducible refine sX ?_);refine Yv hM rfl rfl (by first|exact rfl|(go_simp;done)) rfl hlen ?_;clear hM;intro W hM)|(refine qe ?_;clear hM;intro g W hM))
   all_goals
    (go_roundw
     case rel=>exact⟨k+1,_,_,by omega,by go_num,HN,qC hM⟩
     case measure=>simp[intOf];omega)
  ·obtain rfl:k=ws.length:=qg;go_wp2_with(first|(refine qe ?_;clear hM;intro g W hM))
   all_goals(go_ret2;exact .inr ⟨gm,ws.length,cs,rfl,⟨Nat.le_refl _,by unfold maxLen;omega⟩,⟨f,HI.out⟩,uK hM (List.Sublist.cons_cons _ (List.nil_sublist _))⟩)
theorem rW(n:Int)(w:World):Calls Tryz.prog 175 #[Iv n] w (JK w):=by
 by_cases h1: -1099511627776≤n<;>by_cases h2:n≤1099511627776
 all_goals
  go_enter Tryz.func175,Tryz.ntmps175;go_wp2
  all_goals(go_ret;exact⟨_,rfl,trivial,Below.refl _ _⟩)
def Sw(ws:List (Int×Int))(cs:List Value)(v:List (Int×Int)):Prop:=PL cs v∧v.length=ws.length∧∀k,k<ws.length→(pq v k).1=(pq ws k).1∧(pq v k).2≤(pq ws k).2
theorem MI{ws v:List (Int×Int)}{cs:List Value}(h:Sw ws cs v){i:Nat}{n:Int}(hi:i<ws.length)(hn:qz n):Sw ws (jg cs (i*2+1) [Iv (min (pq v i).2 n)]) (v.set i ((pq v i).1,min (pq v i).2 n)):=by
 have hv:i<v.length:=by rw[h.2.1];exact hi
 refine⟨Wf h.1 hv (vu (h.1.i64 i hv).2 hn),by rw[List.length_set];exact h.2.1,fun k hk=> ?_⟩;rw[YG v _ hv];have h1:=h.2.2 k hk;by_cases e:k=i
 ·subst e;rw[if_pos rfl];exact⟨h1.1,by show min (pq v k).2 n≤_;omega⟩
 ·rw[if_neg e];exact h1
theorem Rm{ws v:List (Int×Int)}{cs:List Value}{f:Nat→Int}(h:Sw ws cs v)(hf:rV v ws.length f):rV ws ws.length f:=fun k hk=>by
 have h1:=hf k hk;have h2:=h.2.2 k hk;omega
theorem dN(S T U:Option Addr)(ws st:List (Int×Int))(fw:Nat→Int)(c d cu:Nat)(w:World)(hn:0<ws.length)(hwl:ws.length≤1000000)(hsl:st.length≤1000000)(hsd:st.length≤d)(hd63:d≤9223372036854775807)(HS:Hid (zY w S ws.length (pq ws)))(HT:Hid (zY w T st.length (pq st)))(HU:Hid (jT w U ws.length fw)):Calls Tryz.prog 106 #[.slice S ws.length c,.slice T st.length d,.slice U ws.length cu] w
 (KI 2 ws.length (fun cs=>∃f,IL cs ws.length f∧rV ws ws.length f) w):=by
 have hM:=qo w;obtain⟨b,o,rfl,-⟩:=HS.out 0 hn;go_enter Tryz.func106,Tryz.ntmps106;go_upto_region 6 with(first|(refine qe ?_;clear hM;intro g W hM)|(go_at_call 174;(with_reducible refine Bq hM (Vz (some ⟨b,o,none⟩) T ws.length st.length c d (pq ws) (pq st) _ qg qg (hide (zj hM HS.out)) (hide (zj hM HT.out))) ?_ ?_)<;>(clear hM;first|(intro q W1 hq hz hz1 hM)|(intro W1 HK hM))))
 all_goals first
  |(go_ret2;exact .inl ⟨_,rfl,⟨hq,by simpa using hz,hz1⟩,hM.below⟩)
  |skip
 have hn64:=HK.out.le;clear HK;go_upto_region 7 with(first|((with_reducible refine kD ?_);refine GW hM rfl rfl rfl rfl Tryz.underlying130 Ze (zj hM HS.out) hn qg (by(unfold maxLen;omega)) ?_;clear hM;intro gw capw cs W HPL hcap hM)|(refine qe ?_;clear hM;intro g W hM));rw[mR]at HPL;have HI:Hid (Sw ws cs ws):=hide ⟨HPL,rfl,fun k hk=>⟨rfl,Int.le_refl _⟩⟩;clear HPL;obtain⟨v,hv⟩:∃v,Sw ws cs v:=⟨ws,HI.out⟩;replace HI:=hide hv;clear hv;go_wp2_with(first|(refine qe ?_;clear hM;intro g W hM));go_loopw [27] (fun s wx=>∃(k:Nat) (cs:List Value) (v:List (Int×Int)),k≤ws.length∧s=Iv (k:Int)∧Hid (Sw ws cs v)∧qF w wx [(gw,cs,55)]) (fun s _=>ws.length-(intOf s).toNat)
 case atStart=>exact⟨0,cs,v,by omega,rfl,HI,hM⟩
 case round=>
  clear hM HI;obtain⟨k,cs,v,hk,rfl,HI,hM⟩:=hrel;have hvl:=HI.out.2.1;by_cases hlt:k<ws.length
  ·obtain⟨bu,ou,rfl,hc,hi⟩:=HU.out k hlt;have HC:=hide hc;have HY:=hide (HI.out.1.at_ k qg).2;have hlen:k*2+1<cs.length:=by have:=HI.out.1.le;omega
   have HN:=hide (MI HI.out hlt hi);obtain⟨y,hy⟩:∃y,(pq v k).2=y:=⟨_,rfl⟩;obtain⟨n,hn2⟩:∃n,fw k=n:=⟨_,rfl⟩;rw[hy]at HY;rw[hy,hn2]at HN;rw[hn2]at HC;clear hc hi hy hn2;go_wp2_with(first|(go_at_call 175;(with_reducible refine uD hM (rW _ _) ?_ ?_)<;>(clear hM;intro W1 hb hM;clear hb))|((with_reducible refine lX ?_);refine zD hM rfl (by first|exact rfl|(go_simp;done)) rfl (ur rfl) (HC.out) ?_)|((with_reducible refine lX ?_);refine yR hM rfl rfl (by first|exact rfl|(go_simp;done)) HY.out (ur rfl) ?_)|((with_reducible refine sX ?_);refine Yv hM rfl rfl (by first|exact rfl|(go_simp;done)) rfl hlen ?_;clear hM;intro W hM)|(refine qe ?_;clear hM;intro g W hM))
   all_goals first
    |(go_ret2;exact .inl ⟨2,rfl,⟨⟨qG,qG⟩,rfl,rfl⟩,hM.below⟩)
    |(go_roundw
      case rel=>exact⟨k+1,_,_,by omega,by go_num,HN,hM⟩
      case measure=>simp[intOf];omega)
  ·have GC:=fun W h1 h2=>pR (some ⟨gw,0,none⟩) T v st capw d W qg qg hsl hsd hd63 h1 h2
   simp only[hvl]at GC;have hvn:=hide hvl;have HPV:=hide HI.out.1;clear hvl;go_wp2_with(first|(refine qe ?_;clear hM;intro g W hM)|(go_at_call 176;(with_reducible refine Qf hM (GC _ (hide (by have:=xD hM HPV.out (by((repeat constructor)<;>fail));rw[hvn.out]at this;exact this)) (hide (zj hM HT.out))) ?_ ?_)<;>(clear hM;first|(rintro gm capm cm W1 hcapm ⟨fm,hm1,hm2⟩ hM)|(rintro q W1 ⟨hqi,hq1,hq2⟩ hM))))
   all_goals first
    |(go_ret2;exact .inl ⟨_,rfl,⟨hqi,hq1,hq2⟩,hM.below⟩)
    |(go_ret2;exact .inr ⟨gm,capm,cm,rfl,hcapm,⟨fm,hm1,Rm HI.out hm2⟩,uK hM (List.Sublist.cons_cons _ (List.nil_sublist _))⟩)
theorem JM{fn:Func}{t u v x:Tmp}(h:fn.results= #[.tmp t,.tmp u,.tmp v,.tmp x])(tmps:Array Value)(P:Program)(w:World):
 (results fn tmps).run P w= .ok (.tuple #[tmps.getD t undef,tmps.getD u undef,tmps.getD v undef,tmps.getD x undef]) w:=by
 simp[results,h]
theorem MJ{cs:List Value}{n k:Nat}{f:Nat→Int}{x:Int}(h:IL cs n f)(hk:k<n)(hx:qz x):∃g,IL (jg cs k [Iv x]) n g:=⟨_,Wg h hk hx⟩
theorem Wp(S T:Option Addr)(ws st:List (Int×Int))(lev:Int)(c d:Nat)(w:World)(hlev:qz lev)(hn:0<ws.length)(hwl:ws.length≤1000000)(hsl:st.length≤1000000)(hsd:st.length≤d)(hd63:d≤9223372036854775807)(HS:Hid (zY w S ws.length (pq ws)))(HT:Hid (zY w T st.length (pq st))):Calls Tryz.prog 50 #[.slice S ws.length c,.slice T st.length d,Iv lev] w
 fun e w'=>(∃q:Int,e= .returned (.tuple #[.slice none 0 0,Iv 0,Iv 0,Iv q])∧(qz q∧(q==0)=false∧(q !=0)=true)∧Below w.heap.size w w')∨
  ∃(g cap:Nat) (cs:List Value) (x y:Int) (f:Nat→Int),e= .returned (.tuple #[.slice (some ⟨g,0,none⟩) ws.length cap,Iv x,Iv y,Iv 0])∧(ws.length≤cap∧cap≤maxLen)∧(IL cs ws.length f∧rV ws ws.length f)∧qF w w' [(g,cs,2)]:=by
 have hM:=qo w;go_enter Tryz.func50,Tryz.ntmps50;go_upto_region 2 with(first|((with_reducible refine EP ?_);refine GZ (n:=ws.length) hM rfl rfl rfl rfl qg ?_;clear hM;intro gm cs W hIL hM)|(refine qe ?_;clear hM;intro g W hM));have HI:Hid (∃f,IL cs ws.length f):=hide ⟨_,hIL⟩;clear hIL;go_wp2_with(first|(refine qe ?_;clear hM;intro g W hM));go_loopw [19] (fun s wx=>∃(k:Nat) (cs:List Value),k≤ws.length∧s=Iv (k:Int)∧Hid (∃f,IL cs ws.length f)∧qF w wx [(gm,cs,2)]) (fun s _=>ws.length-(intOf s).toNat)
 case atStart=>exact⟨0,cs,by omega,rfl,HI,hM⟩
 case round=>
  clear hM HI;obtain⟨k,cs,hk,rfl,HI,hM⟩:=hrel;by_cases hlt:k<ws.length
  ·have hlen:k<cs.length:=HI.out.elim fun f hf=>by have:=hf.le;omega
   have HN:Hid (∃f,IL (jg cs k [Iv lev]) ws.length f):=hide (HI.out.elim fun f hf=>MJ hf hlt hlev);go_wp2_with(first|((with_reducible refine sX ?_);refine Yv hM rfl rfl (by first|exact rfl|(go_simp;done)) rfl hlen ?_;clear hM;intro W hM)|(refine qe ?_;clear hM;intro g W hM))
   all_goals
    (go_roundw
     case rel=>exact⟨k+1,_,by omega,by go_num,HN,hM⟩
     case measure=>simp[intOf];omega)
  ·obtain⟨fw,hfw⟩:=HI.out;replace HI:=hide hfw;clear hfw;go_upto_region 11 with(first|(refine qe ?_;clear hM;intro g W hM)|(go_at_call 106;(with_reducible refine Qf hM (dN S T (some ⟨gm,0,none⟩) ws st fw c d ws.length _ hn hwl hsl hsd hd63 (hide (zj hM HS.out)) (hide (zj hM HT.out)) (hide (Zq hM HI.out (by((repeat constructor)<;>fail))))) ?_ ?_)<;>(clear hM;first|(rintro gv capv cv W1 hcapv ⟨fv,hv1,hv2⟩ hM;have HV:=hide (And.intro hv1 hv2);clear hv1 hv2)|(rintro q W1 ⟨hqi,hq1,hq2⟩ hM))))
   all_goals first
    |(((try simp only[Exit.inBlock,Exit.then]);refine bodyPost_ret (JM rfl _ _ _) rfl ?_);exact .inl ⟨_,rfl,⟨hqi,hq1,hq2⟩,hM.below⟩)
    |skip
   replace hM:=uK hM (List.Sublist.cons_cons _ (List.nil_sublist _));go_wp2_with(first|(refine qe ?_;clear hM;intro g W hM));go_loopw [7,8,39] (fun s7 s8 s wx=>∃(k:Nat) (x y:Int),k≤ws.length∧s7=Iv x∧s8=Iv y∧s=Iv (k:Int)∧qF w wx [(gv,cv,2)]) (fun _ _ s _=>ws.length-(intOf s).toNat)
   case atStart=>exact⟨0,-1,-1,by omega,rfl,rfl,rfl,hM⟩
   case round=>
    clear hM;obtain⟨j,x,y,hj,rfl,rfl,rfl,hM⟩:=hrel;by_cases hlj:j<ws.length
    ·have HY:=hide (HV.out.1.at_ j hlj).1;go_wp2_with(first|((with_reducible refine lX ?_);refine yR hM rfl rfl (by first|exact rfl|(go_simp;done)) HY.out (ur rfl) ?_)|(refine qe ?_;clear hM;intro g W hM))
     all_goals
      (go_roundw
       case rel=>exact⟨j+1,_,_,by omega,rfl,rfl,by go_num,hM⟩
       case measure=>simp[intOf];omega)
    ·go_wp2_with(first|(refine qe ?_;clear hM;intro g W hM))
     all_goals(((try simp only[Exit.inBlock,Exit.then]);refine bodyPost_ret (JM rfl _ _ _) rfl ?_);exact .inr ⟨gv,capv,cv,x,y,fv,rfl,hcapv,HV.out,hM⟩)
theorem Uv(n:Int)(w:World):Calls Tryz.prog 111 #[Iv n] w (JK w):=by
 by_cases h1:0≤n<;>by_cases h2:n≤1000
 all_goals
  go_enter Tryz.func111,Tryz.ntmps111;go_wp2
  all_goals(go_ret;exact⟨_,rfl,trivial,Below.refl _ _⟩)
theorem WT(n:Int)(w:World):Calls Tryz.prog 112 #[Iv n] w (JK w):=by
 by_cases h1:0≤n<;>by_cases h2:n≤8000000
 all_goals
  go_enter Tryz.func112,Tryz.ntmps112;go_wp2
  all_goals(go_ret;exact⟨_,rfl,trivial,Below.refl _ _⟩)
theorem Ya:yw Tryz.prog 196 2 16:=by unfold yw;kernel_rfl
theorem Vq{e:TypeId}{V:Value}{l:List (Int×Int)}{B:List qZ}(h:bZ e 2 V l.length (l.flatMap UO) B)(hl:0<l.length)(hi:∀x∈l,qz x.1∧qz x.2):∃g cap cur,V= .slice (some ⟨g,0,none⟩) l.length cap∧(l.length≤cap∧cap≤maxLen)∧B=[(g,cur,e)]∧PL cur l:=by
 obtain⟨S,cap,rfl,-⟩:=uY h;obtain⟨g,cur,rfl,rfl,hc⟩:=xw h hl
 cases h with
 |row q1 q2 _ _ _=>exact⟨g,cap,cur,rfl,⟨q1,q2⟩,rfl,We hc (La hi)⟩
theorem sU(S:Option Addr)(n c:Nat)(f:Nat→Int)(acc dec:Int)(w:World)(hn:0<n)(hn2:n≤1000000)(HS:Hid (jT w S n f)):Calls Tryz.prog 53 #[.slice S n c,Iv acc,Iv dec] w
 (KI 196 n (fun cs=>∃v,v.length=n∧PL cs v) w):=by
 have hM:=qo w;by_cases h64:n<64;rotate_left
 ·have e1:(64:Int)≤(n:Int):=qg;go_enter Tryz.func53,Tryz.ntmps53;go_wp2_with(first|(refine qe ?_;clear hM;intro g W hM))
  all_goals(go_ret2;exact .inl ⟨3,rfl,⟨⟨qG,qG⟩,rfl,rfl⟩,hM.below⟩)
 have e1:¬(64:Int)≤(n:Int):=qg;go_enter Tryz.func53,Tryz.ntmps53;go_upto_region 6 with(first|(refine qe ?_;clear hM;intro g W hM)|(go_at_call 111;(with_reducible refine uD hM (Uv _ _) ?_ ?_)<;>(clear hM;intro W1 hb hM;clear hb)))
 all_goals first
  |(go_ret2;exact .inl ⟨2,rfl,⟨⟨qG,qG⟩,rfl,rfl⟩,hM.below⟩)
  |skip
 all_goals
  clear e1;go_wp2_with(first|refine zC ?_);go_loopw [8,24] (fun s8 s wx=>∃(k:Nat) (l:List (Int×Int)) (B:List qZ),k≤n∧l.length=k∧s=Iv (k:Int)∧Hid (bZ 196 2 s8 l.length (l.flatMap UO) B)∧Hid (∀x∈l,qz x.1∧qz x.2)∧qF w wx B) (fun _ s _=>n-(intOf s).toNat)
  case atStart=>exact⟨0,[],[],by omega,rfl,rfl,hide .nil,hide (fun x hx=>by cases hx),hM⟩
  case round=>
   clear hM;obtain⟨k,l,B,hk,hl,rfl,HO,HI,hM⟩:=hrel;replace hl:=hide hl;by_cases hlt:k<n
   ·obtain⟨b,o,rfl,hc,hi⟩:=HS.out k hlt;have HC:=hide hc;clear hc hi;have hl2:l.length≤1000:=by have:=hl.out;omega
    go_wp2_with(first|(go_at_call 112;(with_reducible refine uD hM (WT _ _) ?_ ?_)<;>(clear hM;intro W1 hb hM;clear hb))|((with_reducible refine lX ?_);refine zD hM rfl (by first|exact rfl|(go_simp;done)) rfl (ur rfl) (HC.out) ?_)|((with_reducible refine uJ ?_);refine' yZ hM rfl rfl ?_ Tryz.underlying127 Ya ?_ qG qG ?_;rotate_left 1;(·constructor);(·rfl);(clear hM;intro g W hM))|((with_reducible refine kD ?_);refine kH (R:=[]) UO (_,_) hM rfl rfl rfl rfl HO Tryz.underlying127 Ya rfl rfl qG qG qg ?_;clear hM;intro V B' W HV hM)|refine zC ?_)
    all_goals first
     |(go_ret2;exact .inl ⟨2,rfl,⟨⟨qG,qG⟩,rfl,rfl⟩,hM.below⟩)
     |(go_roundw
       case rel=>exact⟨k+1,_,B',by omega,by simp[hl.out],by go_num,HV,hide (VA HI.out (by first|exact zg|assumption|exact zi _|exact ze _|exact⟨qG,qG⟩) (by first|exact zg|assumption|exact zi _|exact ze _|exact⟨qG,qG⟩)),hM⟩
       case measure=>simp[intOf];omega)
   ·have HQ:=hide (Vq HO.out (by have:=hl.out;omega) HI.out);obtain⟨g,cap,cur,hV,hcap,rfl,hP⟩:=HQ.out;clear HQ;have hln:l.length=n:=by have:=hl.out;omega
    rw[hln]at hV hcap;subst hV;have HP:=hide hP;replace hln:=hide hln;clear hP hl HO;go_wp2_with(first|refine zC ?_)
    all_goals(go_ret2;exact .inr ⟨g,cap,cur,rfl,hcap,⟨l,hln.out,HP.out⟩,hM⟩)
theorem sV(S T:Option Addr)(n m c d:Nat)(f g:Nat→Int×Int)(w:World)(hn:n≤1000000)(hm:m≤1000000)(HS:Hid (zY w S n f))(HT:Hid (zY w T m g)):Calls Tryz.prog 113 #[.slice S n c,.slice T m d] w (kY (fun _=>True) w):=by
 have hM:=qo w;go_enter Tryz.func113,Tryz.ntmps113;go_upto_region 4 with(first|(refine qe ?_;clear hM;intro g W hM)|(go_at_call 174;(with_reducible refine Bq hM (Vz S T n m c d f g _ qg qg (hide (zj hM HS.out)) (hide (zj hM HT.out))) ?_ ?_)<;>(clear hM;first|(intro q W1 hq hz hz1 hM)|(intro W1 HK hM))))
 all_goals first
  |(go_ret;exact⟨_,rfl,⟨qY,trivial⟩,hM.below⟩)
  |skip
 clear HK;go_wp2_with(first|(refine qe ?_;clear hM;intro g W hM));go_loopw [16] (fun s wx=>∃k:Nat,k≤n∧s=Iv (k:Int)∧qF w wx []) (fun s _=>n-(intOf s).toNat)
 case atStart=>exact⟨0,by omega,rfl,hM⟩
 case round=>
  clear hM;obtain⟨k,hk,rfl,hM⟩:=hrel;by_cases hlt:k<n
  ·obtain⟨b,o,rfl,hc,hi⟩:=HS.out k hlt;have HC:=hide hc;clear hc hi;go_wp2_with(first|(go_at_call 111;(with_reducible refine uD hM (Uv _ _) ?_ ?_)<;>(clear hM;intro W1 hb hM;clear hb))|((with_reducible refine lX ?_);refine yL hM rfl (by first|exact rfl|(go_simp;done)) rfl (Zg rfl) HC.out (bQ rfl) ?_)|(refine qe ?_;clear hM;intro g W hM))
   all_goals first
    |(go_ret;exact⟨_,rfl,⟨⟨qG,qG⟩,trivial⟩,hM.below⟩)
    |(go_roundw
      case rel=>exact⟨k+1,by omega,by go_num,qC hM⟩
      case measure=>simp[intOf];omega)
  ·go_wp2_with(first|(refine qe ?_;clear hM;intro g W hM))
   all_goals(go_ret;exact⟨_,rfl,⟨zg,trivial⟩,hM.below⟩)
theorem WU(S T U:Option Addr)(ws st:List (Int×Int))(fw:Nat→Int)(c d cu:Nat)(w:World)(hn:0<ws.length)(hwl:ws.length≤1000000)(hsl:st.length≤1000000)(hsd:st.length≤d)(hd63:d≤9223372036854775807)(HS:Hid (zY w S ws.length (pq ws)))(HT:Hid (zY w T st.length (pq st)))(HU:Hid (jT w U ws.length fw)):Calls Tryz.prog 54 #[.slice S ws.length c,.slice T st.length d,.slice U ws.length cu] w
 (KI 2 ws.length (fun cs=>∃f,IL cs ws.length f) w):=by
 have hM:=qo w;go_enter Tryz.func54,Tryz.ntmps54;go_upto_region 2 with(first|(refine qe ?_;clear hM;intro g W hM)|(go_at_call 113;(with_reducible refine cx hM (sV S T ws.length st.length c d (pq ws) (pq st) _ hwl hsl (hide (zj hM HS.out)) (hide (zj hM HT.out))) ?_);clear hM;rintro q W1 ⟨hqi,-⟩ hM;by_cases hq:q=0))
 ·subst hq;go_wp2_with(first|refine zC ?_|(go_at_call 106;(with_reducible refine Qf hM (dN S T U ws st fw c d cu _ hn hwl hsl hsd hd63 (hide (zj hM HS.out)) (hide (zj hM HT.out)) (hide (zW hM HU.out))) ?_ ?_)<;>(clear hM;first|(rintro gv capv cv W1 hcapv ⟨fv,hv1,hv2⟩ hM)|(rintro q W1 ⟨hqi,hq1,hq2⟩ hM))))
  all_goals first
   |(go_ret2;exact .inl ⟨_,rfl,⟨hqi,hq1,hq2⟩,hM.below⟩)
   |(go_ret2;exact .inr ⟨gv,capv,cv,rfl,hcapv,⟨fv,hv1⟩,hM⟩)
 ·have hq1:(q==0)=false:=by simpa using hq
  have hq2:(q !=0)=true:=by simpa using hq
  go_wp2_with(first|refine zC ?_)
  all_goals(go_ret2;exact .inl ⟨_,rfl,⟨hqi,hq1,hq2⟩,hM.below⟩)
end Go.Proofs.YtiegohjobhehcaaGreatDoor
