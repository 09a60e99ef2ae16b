/-
  A store into an element of a slice of structs whose row is a box: the row's cells, element by element.
-/
import Derived.Test.YtiegohjobhehcaaGreatDoorMTurnA
import Derived.Test.YtiegohjobhehcaaGreatDoorMPlan3
namespace Go.Proofs.YtiegohjobhehcaaGreatDoor
open Go.RowKit
set_option linter.unusedVariables false
theorem xV{cs new:List Value}{off:Nat}(h:off+new.length≤cs.length)(i:Nat):(jg cs off new)[i]? =if i<off then cs[i]? else if i<off+new.length then new[i-off]? else cs[i]? :=by
 unfold jg;have h1:(cs.take off).length=off:=by rw[List.length_take];omega
 by_cases a:i<off
 ·rw[if_pos a,List.getElem?_append_left qg,List.getElem?_take,if_pos a]
 ·rw[if_neg a,List.getElem?_append_right qg,h1];by_cases b:i<off+new.length
  ·rw[if_pos b,List.getElem?_append_left qg]
  ·rw[if_neg b,List.getElem?_append_right qg,List.getElem?_drop];congr 1;omega
theorem gM{cs new:List Value}{off:Nat}(h:off+new.length≤cs.length):(jg cs off new).length=cs.length:=by
 unfold jg;simp;omega
theorem gN(t:Tk):t.cells.length=15:=rfl
theorem Jq(ts:List Tk):(ts.flatMap Tk.cells).length=ts.length*15:=by
 induction ts with
 |nil=>rfl
 |cons t ts ih=>rw[List.flatMap_cons,List.length_append,ih,gN,List.length_cons];omega
theorem UQ(ts:List Tk)(k i:Nat)(hi:i<15):(ts.flatMap Tk.cells)[k*15+i]? =(ts[k]?).bind (fun t=>t.cells[i]?):=by
 induction ts generalizing k with
 |nil=>simp
 |cons t ts ih=>
  rw[List.flatMap_cons]
  cases k with
  |zero=>
   rw[Nat.zero_mul,Nat.zero_add,List.getElem?_append_left (by rw[gN];omega)];rfl
  |succ k=>
   rw[List.getElem?_append_right (by rw[gN];omega),gN,show(k+1)*15+i-15=k*15+i by omega,ih k];rfl
theorem Nv{ts:List Tk}{cur new:List Value}{k off:Nat}{t t':Tk}(hcur:cur.take (ts.length*15)=ts.flatMap Tk.cells)(hk:ts[k]? =some t)(ho:off+new.length≤15)(hs:jg t.cells off new=t'.cells):
 (jg cur (k*15+off) new).take ((ts.set k t').length*15)=(ts.set k t').flatMap Tk.cells∧(jg cur (k*15+off) new).length=cur.length:=by
 have hkl:=(List.getElem?_eq_some_iff.1 hk).1
 have hlen:ts.length*15≤cur.length:=by
  have:=congrArg List.length hcur;rw[List.length_take,Jq]at this;omega
 have hb:k*15+off+new.length≤cur.length:=qg;refine⟨?_,gM hb⟩;rw[List.length_set];apply List.ext_getElem?;intro i;rw[List.getElem?_take];by_cases hi:i<ts.length*15
 ·rw[if_pos hi];obtain⟨q,r,rfl,hr⟩:∃q r,i=q*15+r∧r<15:=⟨i/15,i%15,by omega,qg⟩;rw[UQ _ _ _ hr,xV hb]
  have hold:cur[q*15+r]? =(ts[q]?).bind (fun t=>t.cells[r]?):=by
   rw[←UQ _ _ _ hr,←hcur,List.getElem?_take,if_pos hi]
  have hq:q<ts.length:=qg;by_cases hqk:q=k
  ·subst hqk;rw[List.getElem?_set_self hq,hold,hk]
   show _=t'.cells[r]?
   rw[←hs,xV (by rw[gN];omega)]
   show(if _ then t.cells[r]? else if _ then _ else t.cells[r]?)=_
   by_cases c1:r<off
   ·rw[if_pos qg,if_pos c1]
   ·rw[if_neg qg,if_neg c1];by_cases c2:r<off+new.length
    ·rw[if_pos qg,if_pos c2];congr 1;omega
    ·rw[if_neg qg,if_neg c2]
  ·rw[List.getElem?_set_ne (Ne.symm hqk),hold];by_cases c1:q*15+r<k*15+off
   ·rw[if_pos c1]
   ·rw[if_neg c1];rw[if_neg qg]
 ·rw[if_neg hi,List.getElem?_eq_none (by rw[Jq,List.length_set];omega)]
section
variable{P:Program}{w W:World}{L L':List qZ}{ops:Array Oper}{rest:List Oper}{o:Oper}{a:Act}{Q:Exit→Act→World→Prop}
theorem BZ{new cs:List Value}{t:TypeId}{n:Nat}(hM:qF w W L)(hg:o.guard=none){ty:TypeId}{x y:Operand}(ho:o.op= .store ty x y){g off:Nat}(hx:a.eval x= .pointer (some ⟨g,off,none⟩))(hy:Ev (a.eval y) new)
 (hk:Lk L g cs t) (hb:off+new.length≤cs.length) (hu:Up L g cs (jg cs off new) t L') (hi:∀w,(sizeOf ty).run P w= .ok n w) (hn:new.length=n) (h1:∀x∈new,x.oneCell'=true)
 (h:∀W',qF w W' L'→wpList P ops Q rest (a.put o.dst undef) W'):wpList P ops Q (o::rest) a W:=
 Gq hM hg ho hx hy.eq hu (yA W hi) (by simpa using hn) qg (by simpa using h1) jL h
end
set_option maxRecDepth 100000
set_option maxHeartbeats 16000000
set_option linter.unusedSimpArgs false
theorem YK{w0 w:World}{gd:Nat}{rad:Int}{V:Value}{d:Dw}{B R:List qZ}{m:Nat}(c:Bool)(ax ay bx b_y cx cy r f s L n:Int)(g:Bool)(hM:qF w0 w ((gd,bq V d rad,88)::(B++R)))(hO:Hid (tO V d.els B m))(hm:m≤100000:=by omega):
 Calls Tryz.prog 39 #[.pointer (some ⟨gd,0,none⟩),.agg #[.bool c,Iv ax,Iv ay,Iv bx,Iv b_y,Iv cx,Iv cy,Iv r,Iv f,Iv s,Iv L,Iv n,.bool g]] w fun e w'=>e= .returned (.tuple #[])∧∃V' B',tO V' (ZO d ⟨c,ax,ay,bx,b_y,cx,cy,r,f,s,L,n,g⟩).els B' (m+1)∧qF w0 w' ((gd,bq V' (ZO d ⟨c,ax,ay,bx,b_y,cx,cy,r,f,s,L,n,g⟩) rad,88)::(B'++R)):=by
 have hM1:=hM;go_enter Tryz.func39,Tryz.ntmps39;go_upto_region 2 with(first|(refine qe ?_;clear hM;intro g W hM));refine qj ?_;obtain⟨g,rfl⟩:=uC hM;refine qA [(g,[.bool c,Iv ax,Iv ay,Iv bx,Iv b_y,Iv cx,Iv cy,Iv r,Iv f,Iv s,Iv L,Iv n,.bool d.gp],53)] hM qM ?_;(clear hM;intro W hM);refine rD 0 ?_;refine rD 1 ?_;refine rD 2 ?_;refine rD 3 ?_;refine rD 5 ?_;refine dT 4 6 (fun K' hK'=> ?_) (fun K' hK'=> ?_)
 ·
  first|refine oL hM ?_|refine oM hM ?_
  refine rK hK' hM ?_;clear hK' K';refine dC 6 (fun K' hK'=> ?_);refine LH hM ?_;clear hM;intro gB W hM;refine rK hK' hM ?_;clear hK' K';refine dC 7 (fun K' hK'=> ?_);refine LI (e:=⟨c,ax,ay,bx,b_y,cx,cy,r,f,s,L,n,d.gp⟩) hM hO hm ?_;clear hM;intro gA capA BA W HOA hM;simp only[List.cons_append,List.nil_append]at hM;refine rK hK' hM ?_;clear hK' K';refine rD 8 ?_;refine rD 9 ?_;refine dC 10 (fun K' hK'=> ?_);refine Lh hM Tryz.sizeOf44 ?_;clear hM;intro W hM;refine rK hK' hM ?_;clear hK' K';refine qp qM ?_;go_wp2_with(first|(refine qe ?_;clear hM;intro g W hM))
  all_goals
   (refine bodyPost_end (v:= .tuple #[]) (by simp[results,Tryz.results39,go_sem]) rfl ?_;exact⟨rfl,_,BA,HOA.out,qC (qC hM)⟩)
 ·
  refine LH hM ?_;clear hM;intro gB W hM;refine rK hK' hM ?_;clear hK' K';refine dC 4 (fun K' hK'=> ?_)
  first|refine oL hM ?_|refine oM hM ?_
  refine rK hK' hM ?_;clear hK' K';refine dC 7 (fun K' hK'=> ?_);refine LI (e:=⟨c,ax,ay,bx,b_y,cx,cy,r,f,s,L,n,d.gp⟩) hM hO hm ?_;clear hM;intro gA capA BA W HOA hM;simp only[List.cons_append,List.nil_append]at hM;refine rK hK' hM ?_;clear hK' K';refine rD 8 ?_;refine rD 9 ?_;refine dC 10 (fun K' hK'=> ?_);refine Lh hM Tryz.sizeOf44 ?_;clear hM;intro W hM;refine rK hK' hM ?_;clear hK' K';refine qp qM ?_;go_wp2_with(first|(refine qe ?_;clear hM;intro g W hM))
  all_goals
   (refine bodyPost_end (v:= .tuple #[]) (by simp[results,Tryz.results39,go_sem]) rfl ?_;exact⟨rfl,_,BA,HOA.out,qC (qC hM)⟩)
theorem ZT{w0 w:World}{gd:Nat}{rad:Int}{V:Value}{d:Dw}{B R:List qZ}{m:Nat}(qx qy n:Int)(hM:qF w0 w ((gd,bq V d rad,88)::(B++R)))(hO:Hid (tO V d.els B m))(hm:m≤100000:=by omega):
 Calls Tryz.prog 13 #[.pointer (some ⟨gd,0,none⟩),.agg #[Iv qx,Iv qy],Iv n] w fun e w'=>e= .returned (.tuple #[])∧∃V' B',tO V' (yX d qx qy n).els B' (m+1)∧qF w0 w' ((gd,bq V' (yX d qx qy n) rad,88)::(B'++R)):=by
 by_cases hq:d.px=qx∧d.py=qy
 ·have HL:=hide (show yX d qx qy n=d by unfold yX;rw[if_pos hq]);obtain⟨rfl,rfl⟩:=hq;go_enter Tryz.func13,Tryz.ntmps13;go_upto_region 1 with(first|(refine qe ?_;clear hM;intro g W hM));refine qj ?_;obtain⟨g,rfl⟩:=uC hM;refine qA [(g,[Iv d.px,Iv d.py],26),(gd,bq V d rad,88)] hM qM ?_;(clear hM;intro W hM);refine rD 0 ?_;refine rD 1 ?_;refine rD 2 ?_;refine rD 3 ?_;refine rD 4 ?_;refine rD 5 ?_;refine qp qM ?_;go_wp2_with(first|refine zC ?_)
  all_goals
   (refine bodyPost_end (v:= .tuple #[]) (by simp[results,Tryz.results13,go_sem]) rfl ?_;exact⟨rfl,V,B,by rw[HL.out];exact⟨hO.out.1,by have:=hO.out.2;omega⟩,by rw[HL.out];exact qC hM⟩)
 ·have HL:=hide (show yX d qx qy n=ZO d ⟨false,d.px,d.py,qx,qy,0,0,0,0,0,zk d.px d.py qx qy,n,false⟩ by unfold yX;rw[if_neg hq]);go_enter Tryz.func13,Tryz.ntmps13;go_upto_region 1 with(first|(refine qe ?_;clear hM;intro g W hM));refine qj ?_;obtain⟨g,rfl⟩:=uC hM;refine qA [(g,[Iv qx,Iv qy],26),(gd,bq V d rad,88)] hM qM ?_;(clear hM;intro W hM);refine rD 0 ?_;refine rD 1 ?_;refine rD 2 ?_;refine rD 3 ?_;refine rD 4 ?_;refine dP 5 (v:= .bool true) hM ?_ (hv:=by(intro W0;go_simp;exact fun h1 h2=>hq ⟨h1,h2⟩));refine qj ?_;refine qp qM ?_;go_upto_region 2 with(first|refine zC ?_);obtain⟨g,rfl⟩:=uC hM;refine qA [(g,[Iv qx,Iv qy],26)] hM qM ?_;(clear hM;intro W hM);refine rD 0 ?_;refine rD 1 ?_;refine rD 2 ?_;refine rD 3 ?_;refine rD 5 ?_;refine rD 6 ?_;refine rD 7 ?_;refine rD 8 ?_;refine rD 10 ?_;refine rD 12 ?_;refine dT 4 9 (fun K' hK'=> ?_) (fun K' hK'=> ?_)
  ·
   first|refine oL hM ?_|refine oM hM ?_
   refine rK hK' hM ?_;clear hK' K';refine dC 9 (fun K' hK'=> ?_)
   first|refine oL hM ?_|refine oM hM ?_
   refine rK hK' hM ?_;clear hK' K';refine dC 11 (fun K' hK'=> ?_);go_wp2_with(first|(refine qt (yG d.px d.py qx qy _) ?_;clear hM;intro W1 hM)|(go_at_call 39;refine cD hM (fun R' hM'=>YK false d.px d.py qx qy 0 0 0 0 0 _ n false hM' hO) ?_;clear hM;intro d1 V1 B1 W1 hd1 hO1 hM;simp only[List.cons_append,List.nil_append]at hM));refine rK hK' hM ?_;clear hK' K';refine rD 13 ?_;refine dC 14 (fun K' hK'=> ?_);go_wp2_with(first|(refine qt (yG d.px d.py qx qy _) ?_;clear hM;intro W1 hM)|(go_at_call 39;refine cD hM (fun R' hM'=>YK false d.px d.py qx qy 0 0 0 0 0 _ n false hM' hO) ?_;clear hM;intro d1 V1 B1 W1 hd1 hO1 hM;simp only[List.cons_append,List.nil_append]at hM));refine rK hK' hM ?_;clear hK' K';refine qp qM ?_;go_wp2_with(first|refine zC ?_)
   all_goals
    (refine bodyPost_end (v:= .tuple #[]) (by simp[results,Tryz.results13,go_sem]) rfl ?_;exact⟨rfl,V1,B1,by rw[HL.out,hd1.out];exact hO1.out,by rw[HL.out,hd1.out];exact qC hM⟩)
  ·
   first|refine oL hM ?_|refine oM hM ?_
   refine rK hK' hM ?_;clear hK' K';refine dT 4 11 (fun K' hK'=> ?_) (fun K' hK'=> ?_)
   ·
    first|refine oL hM ?_|refine oM hM ?_
    refine rK hK' hM ?_;clear hK' K';refine dC 11 (fun K' hK'=> ?_);go_wp2_with(first|(refine qt (yG d.px d.py qx qy _) ?_;clear hM;intro W1 hM)|(go_at_call 39;refine cD hM (fun R' hM'=>YK false d.px d.py qx qy 0 0 0 0 0 _ n false hM' hO) ?_;clear hM;intro d1 V1 B1 W1 hd1 hO1 hM;simp only[List.cons_append,List.nil_append]at hM));refine rK hK' hM ?_;clear hK' K';refine rD 13 ?_;refine dC 14 (fun K' hK'=> ?_);go_wp2_with(first|(refine qt (yG d.px d.py qx qy _) ?_;clear hM;intro W1 hM)|(go_at_call 39;refine cD hM (fun R' hM'=>YK false d.px d.py qx qy 0 0 0 0 0 _ n false hM' hO) ?_;clear hM;intro d1 V1 B1 W1 hd1 hO1 hM;simp only[List.cons_append,List.nil_append]at hM));refine rK hK' hM ?_;clear hK' K';refine qp qM ?_;go_wp2_with(first|refine zC ?_)
    all_goals
     (refine bodyPost_end (v:= .tuple #[]) (by simp[results,Tryz.results13,go_sem]) rfl ?_;exact⟨rfl,V1,B1,by rw[HL.out,hd1.out];exact hO1.out,by rw[HL.out,hd1.out];exact qC hM⟩)
   ·
    go_wp2_with(first|(refine qt (yG d.px d.py qx qy _) ?_;clear hM;intro W1 hM)|(go_at_call 39;refine cD hM (fun R' hM'=>YK false d.px d.py qx qy 0 0 0 0 0 _ n false hM' hO) ?_;clear hM;intro d1 V1 B1 W1 hd1 hO1 hM;simp only[List.cons_append,List.nil_append]at hM));refine rK hK' hM ?_;clear hK' K';refine dC 4 (fun K' hK'=> ?_)
    first|refine oL hM ?_|refine oM hM ?_
    refine rK hK' hM ?_;clear hK' K';refine rD 13 ?_;refine dC 14 (fun K' hK'=> ?_);go_wp2_with(first|(refine qt (yG d.px d.py qx qy _) ?_;clear hM;intro W1 hM)|(go_at_call 39;refine cD hM (fun R' hM'=>YK false d.px d.py qx qy 0 0 0 0 0 _ n false hM' hO) ?_;clear hM;intro d1 V1 B1 W1 hd1 hO1 hM;simp only[List.cons_append,List.nil_append]at hM));refine rK hK' hM ?_;clear hK' K';refine qp qM ?_;go_wp2_with(first|refine zC ?_)
    all_goals
     (refine bodyPost_end (v:= .tuple #[]) (by simp[results,Tryz.results13,go_sem]) rfl ?_;exact⟨rfl,V1,B1,by rw[HL.out,hd1.out];exact hO1.out,by rw[HL.out,hd1.out];exact qC hM⟩)
theorem mU{w0 w:World}{gd:Nat}{rad:Int}{V:Value}{d:Dw}{B R:List qZ}{m:Nat}(cx cy r f s qx qy n:Int)(hM:qF w0 w ((gd,bq V d rad,88)::(B++R)))(hO:Hid (tO V d.els B m))(hm:m≤100000:=by omega):
 Calls Tryz.prog 14 #[.pointer (some ⟨gd,0,none⟩),.agg #[Iv cx,Iv cy,Iv r,Iv f,Iv s],.agg #[Iv qx,Iv qy],Iv n] w fun e w'=>e= .returned (.tuple #[])∧∃V' B',tO V' (uV d cx cy r f s qx qy n).els B' (m+1)∧qF w0 w' ((gd,bq V' (uV d cx cy r f s qx qy n) rad,88)::(B'++R)):=by
 have TL:=fun W=>tH cx cy r f s W
 obtain⟨k,hk⟩:∃k,zq cx cy r f s=k:=⟨_,rfl⟩;rw[hk]at TL;by_cases h1:1≤k
 ·have HL:=hide (show uV d cx cy r f s qx qy n=ZO d ⟨true,d.px,d.py,qx,qy,cx,cy,r,f,s,k,n,false⟩ by unfold uV;rw[hk,if_pos h1]);clear hk;go_enter Tryz.func14,Tryz.ntmps14;go_upto_region 0 with fail;refine qj ?_;go_cut [6,5] (fun s6 s5 wx=>∃gq ga:Nat,s6= .pointer (some ⟨gq,0,none⟩)∧s5= .pointer (some ⟨ga,0,none⟩)∧qF w0 wx ((gq,[Iv qx,Iv qy],26)::(ga,[Iv cx,Iv cy,Iv r,Iv f,Iv s],51)::(gd,bq V d rad,88)::(B++R)))
  case first=>
   go_wp2_with(first|(refine qe ?_;clear hM;intro g W hM))
   all_goals
    go_meet;exact⟨_,_,rfl,rfl,hM⟩
  case rest=>
  clear hM;obtain⟨gq,ga,rfl,rfl,hM⟩:=hcut;go_upto_region 3 with(first|refine zC ?_|(refine qt (TL _) ?_;clear hM;intro W1 hM));refine qj ?_;refine qA [(gq,[Iv qx,Iv qy],26),(ga,[Iv cx,Iv cy,Iv r,Iv f,Iv s],51)] hM qM ?_;(clear hM;intro W hM);refine rD 0 ?_;refine rD 1 ?_;refine rD 2 ?_;refine rD 3 ?_;refine rD 5 ?_;refine rD 6 ?_;refine rD 7 ?_;refine rD 8 ?_;refine dC 4 (fun K' hK'=> ?_)
  first|refine oL hM ?_|refine oM hM ?_
  refine rK hK' hM ?_;clear hK' K';refine rD 9 ?_;refine dC 10 (fun K' hK'=> ?_);go_wp2_with(first|(go_at_call 39;refine cD hM (fun R' hM'=>YK true d.px d.py qx qy cx cy r f s _ n false hM' hO) ?_;clear hM;intro d1 V1 B1 W1 hd1 hO1 hM;simp only[List.cons_append,List.nil_append]at hM));refine rK hK' hM ?_;clear hK' K';refine qp qM ?_;go_wp2_with(first|refine zC ?_)
  all_goals
   (refine bodyPost_ret (v:= .tuple #[]) (by simp[results,Tryz.results14,go_sem]) rfl ?_;exact⟨rfl,V1,B1,by rw[HL.out,hd1.out];exact hO1.out,by rw[HL.out,hd1.out];exact qC (qC hM)⟩)
 ·have HL:=hide (show uV d cx cy r f s qx qy n=yX d qx qy n by unfold uV;rw[hk,if_neg h1]);clear hk;go_enter Tryz.func14,Tryz.ntmps14;go_upto_region 0 with fail;refine qj ?_;go_cut [6,5] (fun s6 s5 wx=>∃gq ga:Nat,s6= .pointer (some ⟨gq,0,none⟩)∧s5= .pointer (some ⟨ga,0,none⟩)∧qF w0 wx ((gq,[Iv qx,Iv qy],26)::(ga,[Iv cx,Iv cy,Iv r,Iv f,Iv s],51)::(gd,bq V d rad,88)::(B++R)))
  case first=>
   go_wp2_with(first|(refine qe ?_;clear hM;intro g W hM))
   all_goals
    go_meet;exact⟨_,_,rfl,rfl,hM⟩
  case rest=>
  clear hM;obtain⟨gq,ga,rfl,rfl,hM⟩:=hcut;go_wp2_with(first|refine zC ?_|(refine qt (TL _) ?_;clear hM;intro W1 hM)|(go_at_call 13;refine cD hM (fun R' hM'=>ZT qx qy n hM' hO) ?_;clear hM;intro d1 V1 B1 W1 hd1 hO1 hM;simp only[List.cons_append,List.nil_append]at hM))
  all_goals
   (refine bodyPost_end (v:= .tuple #[]) (by simp[results,Tryz.results14,go_sem]) rfl ?_;exact⟨rfl,V1,B1,by rw[HL.out,hd1.out];exact hO1.out,by rw[HL.out,hd1.out];exact qC (qC hM)⟩)
def mid(yc post:List Value):List Value:=yc++post
theorem Zy{pre yc post:List Value}{o i:Nat}{v:Value}(hp:pre.length=o)(hv:yc[i]? =some v):(pre++mid yc post)[o+i]? =some v:=by
 subst hp;unfold mid;rw[List.getElem?_append_right qg,show pre.length+i-pre.length=i by omega,List.getElem?_append_left (List.getElem?_eq_some_iff.1 hv).1];exact hv
theorem Fm{pre yc post:List Value}{o:Nat}{v:Value}(hp:pre.length=o)(hv:yc[0]? =some v):(pre++mid yc post)[o]? =some v:=Zy (i:=0) hp hv
theorem eG{yc C post:List Value}{i n:Nat}(h:Part yc i n C):Part (yc++post) i n C:=by
 induction h with
 |nil=>exact .nil
 |take _ ih=>exact .take ih
 |drop _ ih=>exact .drop ih
theorem kB{yc C post:List Value}{i n:Nat}:∀{pre:List Value} {o:Nat},pre.length=o→Part yc i n C→Part (pre++mid yc post) (o+i) n C
 | [],o,hp,h=>by
   subst hp;rw[show([]:List Value).length+i=i by simp];exact(eG (post:=post) h:Part (yc++post) i n C)
 |c::pre,o,hp,h=>by
  subst hp;rw[show(c::pre).length+i=(pre.length+i)+1 by simp;omega];exact .drop (kB rfl h)
theorem xk{yc C post pre:List Value}{n o:Nat}(hp:pre.length=o)(h:Part yc 0 n C):Part (pre++mid yc post) o n C:=kB (i:=0) hp h
theorem Nw{yc yc' new post:List Value}{i:Nat}(h:UX yc i new yc'):UX (yc++post) i new (yc'++post):=by
 induction h with
 |done=>exact .done
 |put _ ih=>exact .put ih
 |skip _ ih=>exact .skip ih
theorem uF{yc yc' new post:List Value}{i:Nat}:∀{pre:List Value} {o:Nat},pre.length=o→UX yc i new yc'→UX (pre++mid yc post) (o+i) new (pre++mid yc' post)
 | [],o,hp,h=>by
   subst hp;rw[show([]:List Value).length+i=i by simp];exact(Nw (post:=post) h:UX (yc++post) i new (yc'++post))
 |c::pre,o,hp,h=>by
  subst hp;rw[show(c::pre).length+i=(pre.length+i)+1 by simp;omega];exact .skip (uF rfl h)
section
variable{l:List Oper}{Q:Exit→Act→World→Prop}{a:Act}{w W:World}{L K:List qZ}{o:Oper}{fuel:Nat}{listed:Array Bool}
theorem eP{P:Program}(i:Nat){v:Value}(hM:qF w W L)(h:wpAnyH P .any l.toArray Q (Held w K) fuel (listed.setIfInBounds i true) (a.put o.dst v) W)(hk:Ks K L:=by((repeat constructor)<;>fail))(hn:tN l i o:=by exact ym rfl)
 (hs:Region.noSelect l.toArray=true:=by kernel_rfl) (hf:Region.free .any l.toArray listed i=true:=by kernel_rfl) (hr:(Region.ready .any l.toArray listed).contains i=true:=by kernel_rfl)
 (hw:Region.wanted o (yielded l.toArray a.tmps)=true:=by rfl) (hv:∀W,(execOp a.eval o).run P W= .ok (.value v) W:=by(intro W0;go_simp<;>with_reducible rfl)) (hQ:∀c a w v,Q (.panic c) (a.put o.dst v) w→Q (.panic c) a w:=by exact fun _ _ _ _ h=>h):wpAnyH P .any l.toArray Q (Held w K) (fuel+1) listed a W:=
  NV hM hk.mem hn hs hf hr hw hv hQ h
theorem eL(i:Nat){v:Value}{cs:List Value}{t:TypeId}(hM:qF w W L)(h:wpAnyH Tryz.prog .any l.toArray Q (Held w K) fuel (listed.setIfInBounds i true) (a.put o.dst v) W)(hk:Ks K L:=by((repeat constructor)<;>fail))(hn:tN l i o:=by exact ym rfl)
 (hs:Region.noSelect l.toArray=true:=by kernel_rfl) (hf:Region.free .any l.toArray listed i=true:=by kernel_rfl) (hr:(Region.ready .any l.toArray listed).contains i=true:=by kernel_rfl) (hw:Region.wanted o (yielded l.toArray a.tmps)=true:=by rfl) {ty:TypeId} {x:Operand} (ho:o.op= .load ty x:=by rfl) {g off:Nat} (hx:a.eval x= .pointer (some ⟨g,off,none⟩):=by rfl)
 (hl:Lk K g cs t:=by((repeat constructor)<;>fail)) (hg:Jw.contains ty=true:=by rfl) (hv:cs[off]? =some v:=by rfl) (hQ:∀c a w v,Q (.panic c) (a.put o.dst v) w→Q (.panic c) a w:=by exact fun _ _ _ _ h=>h):wpAnyH Tryz.prog .any l.toArray Q (Held w K) (fuel+1) listed a W:=
  iX hM hk.mem hn hs hf hr hw ho hx hl (ur hg) hv hQ h
theorem eM(i:Nat){cs:List Value}{t:TypeId}{n:Nat}{C:List Value}(hM:qF w W L)(h:wpAnyH Tryz.prog .any l.toArray Q (Held w K) fuel (listed.setIfInBounds i true) (a.put o.dst (.agg C.toArray)) W)(hk:Ks K L:=by((repeat constructor)<;>fail))(hn:tN l i o:=by exact ym rfl)
 (hs:Region.noSelect l.toArray=true:=by kernel_rfl) (hf:Region.free .any l.toArray listed i=true:=by kernel_rfl) (hr:(Region.ready .any l.toArray listed).contains i=true:=by kernel_rfl) (hw:Region.wanted o (yielded l.toArray a.tmps)=true:=by rfl) {ty:TypeId} {x:Operand} (ho:o.op= .load ty x:=by rfl) {g off:Nat} (hx:a.eval x= .pointer (some ⟨g,off,none⟩):=by rfl)
 (hl:Lk K g cs t:=by((repeat constructor)<;>fail)) (hg:xu.contains ty=true:=by rfl) (hz:List.lookup ty (ZA++TY)=some n:=by rfl) (hC:Part cs off n C:=by((repeat constructor)<;>fail)) (hQ:∀c a w v,Q (.panic c) (a.put o.dst v) w→Q (.panic c) a w:=by exact fun _ _ _ _ h=>h):wpAnyH Tryz.prog .any l.toArray Q (Held w K) (fuel+1) listed a W:=
  NU hM hk.mem hn hs hf hr hw ho hx hl (Zg hg) (bQ hz) hC hQ h
theorem eS{P:Program}(i:Nat)(hM:qF w W L)(h:wpAnyH P .any l.toArray Q (Held w K) fuel (listed.setIfInBounds i true) (a.put o.dst undef) W)(hk:Ks K L:=by((repeat constructor)<;>fail))(hn:tN l i o:=by exact ym rfl)
 (hs:Region.noSelect l.toArray=true:=by kernel_rfl) (hf:Region.free .any l.toArray listed i=true:=by kernel_rfl) (hr:(Region.ready .any l.toArray listed).contains i=true:=by kernel_rfl)
 (hw:Region.wanted o (yielded l.toArray a.tmps)=false:=by rfl) (hQ:∀c a w v,Q (.panic c) (a.put o.dst v) w→Q (.panic c) a w:=by exact fun _ _ _ _ h=>h):wpAnyH P .any l.toArray Q (Held w K) (fuel+1) listed a W:=
  NZ hM hk.mem hn hs hf hr hw hQ h
theorem xP{P:Program}(i:Nat){v:Value}(hM:qF w W L)(hk:Ks K L:=by((repeat constructor)<;>fail))(hn:tN l i o:=by exact ym rfl)
 (hs:Region.noSelect l.toArray=true:=by kernel_rfl) (hf:Region.free .any l.toArray listed i=true:=by kernel_rfl) (hr:(Region.ready .any l.toArray listed).contains i=true:=by kernel_rfl)
 (hw:Region.wanted o (yielded l.toArray a.tmps)=true:=by rfl) (hv:∀W,(execOp a.eval o).run P W= .ok (.value v) W:=by(intro W0;go_simp<;>with_reducible rfl)) (hQ:∀c a w v,Q (.panic c) (a.put o.dst v) w→Q (.panic c) a w:=by exact fun _ _ _ _ h=>h):UZ i (wpAnyH P .any l.toArray Q (Held w K) fuel (listed.setIfInBounds i true) (a.put o.dst v) W) (wpAnyH P .any l.toArray Q (Held w K) (fuel+1) listed a W):=fun h=>eP i hM h hk hn hs hf hr hw hv hQ
theorem xL(i:Nat){v:Value}{cs:List Value}{t:TypeId}(hM:qF w W L)(hk:Ks K L:=by((repeat constructor)<;>fail))(hn:tN l i o:=by exact ym rfl){ty:TypeId}{x:Operand}(ho:o.op= .load ty x:=by rfl)
 (hg:Jw.contains ty=true:=by rfl) (hs:Region.noSelect l.toArray=true:=by kernel_rfl) (hf:Region.free .any l.toArray listed i=true:=by kernel_rfl) (hr:(Region.ready .any l.toArray listed).contains i=true:=by kernel_rfl) (hw:Region.wanted o (yielded l.toArray a.tmps)=true:=by rfl)
 {g off:Nat} (hx:a.eval x= .pointer (some ⟨g,off,none⟩):=by rfl) (hl:Lk K g cs t:=by((repeat constructor)<;>fail)) (hv:cs[off]? =some v:=by rfl) (hQ:∀c a w v,Q (.panic c) (a.put o.dst v) w→Q (.panic c) a w:=by exact fun _ _ _ _ h=>h):UZ i (wpAnyH Tryz.prog .any l.toArray Q (Held w K) fuel (listed.setIfInBounds i true) (a.put o.dst v) W) (wpAnyH Tryz.prog .any l.toArray Q (Held w K) (fuel+1) listed a W):=fun h=>eL i hM h hk hn hs hf hr hw ho hx hl hg hv hQ
theorem xM(i:Nat){cs:List Value}{t:TypeId}{n:Nat}{C:List Value}(hM:qF w W L)(hk:Ks K L:=by((repeat constructor)<;>fail))(hn:tN l i o:=by exact ym rfl){ty:TypeId}{x:Operand}(ho:o.op= .load ty x:=by rfl)
 (hg:xu.contains ty=true:=by rfl) (hs:Region.noSelect l.toArray=true:=by kernel_rfl) (hf:Region.free .any l.toArray listed i=true:=by kernel_rfl) (hr:(Region.ready .any l.toArray listed).contains i=true:=by kernel_rfl) (hw:Region.wanted o (yielded l.toArray a.tmps)=true:=by rfl)
 {g off:Nat} (hx:a.eval x= .pointer (some ⟨g,off,none⟩):=by rfl) (hl:Lk K g cs t:=by((repeat constructor)<;>fail)) (hz:List.lookup ty (ZA++TY)=some n:=by rfl) (hC:Part cs off n C:=by((repeat constructor)<;>fail)) (hQ:∀c a w v,Q (.panic c) (a.put o.dst v) w→Q (.panic c) a w:=by exact fun _ _ _ _ h=>h):UZ i (wpAnyH Tryz.prog .any l.toArray Q (Held w K) fuel (listed.setIfInBounds i true) (a.put o.dst (.agg C.toArray)) W) (wpAnyH Tryz.prog .any l.toArray Q (Held w K) (fuel+1) listed a W):=fun h=>eM i hM h hk hn hs hf hr hw ho hx hl hg hz hC hQ
theorem xS{P:Program}(i:Nat)(hM:qF w W L)(hk:Ks K L:=by((repeat constructor)<;>fail))(hn:tN l i o:=by exact ym rfl)
 (hs:Region.noSelect l.toArray=true:=by kernel_rfl) (hf:Region.free .any l.toArray listed i=true:=by kernel_rfl) (hr:(Region.ready .any l.toArray listed).contains i=true:=by kernel_rfl)
 (hw:Region.wanted o (yielded l.toArray a.tmps)=false:=by rfl) (hQ:∀c a w v,Q (.panic c) (a.put o.dst v) w→Q (.panic c) a w:=by exact fun _ _ _ _ h=>h):UZ i (wpAnyH P .any l.toArray Q (Held w K) fuel (listed.setIfInBounds i true) (a.put o.dst undef) W) (wpAnyH P .any l.toArray Q (Held w K) (fuel+1) listed a W):=fun h=>eS i hM h hk hn hs hf hr hw hQ
theorem rE(i:Nat){G' G H:Prop}(k:H)(s:UZ i G' G:=by first|exact xS _ hM|exact xL _ hM|exact xM _ hM|exact xP _ hM|fail)(n:G'=H:=by conv=>lhs;try simp only[pS,pN,sA,sB,sC]):G:=s (n.mpr k)
theorem eC{P:Program}(i:Nat)(h:∀K':Act→World→Prop,Shut (∀a w1,Held w K w1→wpAnyH P .any l.toArray Q (Held w K) fuel (listed.setIfInBounds i true) a w1→K' a w1)→Oper.wp P o a W K' Q)
 (hn:tN l i o:=by exact ym rfl) (hr:Region.ready .any l.toArray listed=[i]:=by kernel_rfl) (hw:Region.wanted o (yielded l.toArray a.tmps)=true:=by rfl):wpAnyH P .any l.toArray Q (Held w K) (fuel+1) listed a W:=NW hn hr hw h
theorem LG{P:Program}(i:Nat)(hM:qF w W L)(h:wpAnyH P .any l.toArray Q (Held w K) fuel (listed.setIfInBounds i true) (a.put o.dst undef) W)(hk:Ks K L:=by((repeat constructor)<;>fail))(hn:tN l i o:=by exact ym rfl)(hr:Region.ready .any l.toArray listed=[i]:=by kernel_rfl)
 (hw:Region.wanted o (yielded l.toArray a.tmps)=false:=by rfl):wpAnyH P .any l.toArray Q (Held w K) (fuel+1) listed a W:=iY hM hk.mem hn hr hw h
end
section
variable{Q:Exit→Act→World→Prop}{a:Act}{w W:World}{L:List qZ}{o:Oper}{X:Act→World→Prop}
theorem oO{v:Value}{ty:TypeId}{x:Operand}{g off:Nat}(hM:qF w W L)(hc:w.cell? ⟨g,off,none⟩=some v)(h:X (a.put o.dst v) W)(ho:o.op= .load ty x:=by rfl)(hx:a.eval x= .pointer (some ⟨g,off,none⟩):=by rfl)(hg:Jw.contains ty=true:=by rfl):o.wp Tryz.prog a W X Q:=by
 have hs:=ur hg;unfold Oper.wp execOp;simp only[ho,hx,Instr.loadAt,Instr.sureAddr,Sem.run_bind,Sem.run_pure,Result.andThen_ok,loadVar,hs];have hl:(load ⟨g,off,none⟩).run Tryz.prog W= .ok v W:=by simp[hM.old hc]
 simp[hl];exact h
end
theorem eH{w:World}{b off:Nat}{x:En}(h:xA w b off x):w.cell? ⟨b,off+1,none⟩=some (.int .u8 x.ty):=h 1 _ rfl
theorem KT{ts:List Tk}{cur:List Value}{k:Nat}{y:Tk}(hcur:cur.take (ts.length*15)=ts.flatMap Tk.cells)(hk:ts[k]? =some y):
 ∃pre post,cur=pre++mid y.cells post∧pre.length=k*15∧∀y':Tk,(pre++mid y'.cells post).take ((ts.set k y').length*15)=(ts.set k y').flatMap Tk.cells:=by
 have hkl:=(List.getElem?_eq_some_iff.1 hk).1
 have hlen:ts.length*15≤cur.length:=by
  have:=congrArg List.length hcur;rw[List.length_take,Jq]at this;omega
 have hs:∀y':Tk,jg cur (k*15) y'.cells=cur.take (k*15)++mid y'.cells (cur.drop (k*15+15)):=fun y'=>rfl
 have key:∀y':Tk,(jg cur (k*15) y'.cells).take ((ts.set k y').length*15)=(ts.set k y').flatMap Tk.cells:=fun y'=>(Nv (off:=0) hcur hk (by rw[gN];omega) (by
  unfold jg
  rw[List.take_zero,List.nil_append,gN,List.drop_eq_nil_of_le (by rw[gN];omega),List.append_nil])).1
 refine⟨cur.take (k*15),cur.drop (k*15+15),?_,by rw[List.length_take];omega,fun y'=>by rw[←hs];exact key y'⟩
 have h1:(cur.drop (k*15)).take 15=y.cells:=by
  apply List.ext_getElem?;intro i;rw[List.getElem?_take];by_cases hi:i<15
  ·rw[if_pos hi,List.getElem?_drop];have h2:=UQ ts k i hi;rw[←hcur,List.getElem?_take,if_pos qg,hk]at h2;exact h2
  ·rw[if_neg hi,List.getElem?_eq_none (by rw[gN];omega)]
 have h2:cur.drop (k*15)=y.cells++cur.drop (k*15+15):=by
  rw[←h1,←List.drop_drop,List.take_append_drop]
 unfold mid;rw[←h2,List.take_append_drop]
end Go.Proofs.YtiegohjobhehcaaGreatDoor
