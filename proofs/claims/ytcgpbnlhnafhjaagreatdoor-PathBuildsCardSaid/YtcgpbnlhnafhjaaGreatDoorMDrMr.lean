/-
  The pen of the reference by boxes: put, line, arc, all.
-/
import Derived.Test.YtcgpbnlhnafhjaaGreatDoorMDrT
import Derived.Test.YtcgpbnlhnafhjaaGreatDoorMHoldAr
set_option maxRecDepth 100000
set_option maxHeartbeats 16000000
namespace Go.Proofs.YtcgpbnlhnafhjaaGreatDoor
open Go.RowKit
set_option linter.unusedVariables false
set_option linter.unusedSimpArgs false
abbrev uC(V:Value)(d:Dw):List Value:=[Iv d.px,Iv d.py,.bool d.gp,V,Iv (kX d.els)]
def Zv(V:Value)(l:List El)(B:List zw)(m:Nat):Prop:=bG V l B m∧∀x∈l,Ga x
def Gc(d:Dw)(x:El):Dw:=⟨d.els++[{x with g:=d.gp}],d.px,d.py,false⟩
def gK(n:Int):Dw→List El→Dw
 |d,[]=>d
 |d,x::r=>gK n (if 1≤x.L then Gc d {x with n:=n}else d) r
theorem KF(n:Int):∀(l:List El) (d:Dw) (x:El),gK n d (l++[x])=if 1≤x.L then Gc (gK n d l) {x with n:=n}else gK n d l
 | [],d,x=>by unfold gK;rfl
 |y::l,d,x=>by
  rw[List.cons_append];unfold gK;exact KF n l _ x
theorem KG(x:El):∀l:List El,kX (l++[x])=kX l+x.L
 | []=>by show x.L+0=0+x.L;omega
 |y::l=>by rw[List.cons_append,uq,uq,KG x l];omega
theorem ll{V:Value}{l:List El}{B:List zw}{m:Nat}(h:Zv V l B m)(hm:m≤100000):0≤kX l∧kX l≤6000000000000:=by
 have h1:=UT h.2;have h2:=h.1.2;omega
theorem jg{V:Value}{l:List El}{B:List zw}{m k:Nat}(h:Zv V l B m)(hk:m≤k):Zv V l B k:=⟨⟨h.1.1,Nat.le_trans h.1.2 hk⟩,h.2⟩
theorem lm{l:List El}{x:El}(h:∀y∈l,Ga y)(hx:Ga x):∀y∈l++[x],Ga y:=fun y hy=>by
 rcases List.mem_append.1 hy with hy|hy
 ·exact h y hy
 ·rw[List.mem_singleton.1 hy];exact hx
theorem PH{L:List zw}{g:Nat}{cs:List Value}{t:TypeId}(h:(g,cs,t)∈L):Lk L g cs t:=by
 induction L with
 |nil=>cases h
 |cons e L ih=>
  rcases List.mem_cons.1 h with h|h
  ·subst h;exact .head
  ·exact .tail (ih h)
inductive Sq:List zw→List zw→Nat→List Value→TypeId→List zw→List zw→Prop
 |here {g:Nat} {cs:List Value} {t:TypeId} {B R:List zw}:Sq ((g,cs,t)::(B++R)) [] g cs t B R
 |tail {e:zw} {L pre:List zw} {g:Nat} {cs:List Value} {t:TypeId} {B R:List zw}:Sq L pre g cs t B R→Sq (e::L) (e::pre) g cs t B R
 |app {A L pre:List zw} {g:Nat} {cs:List Value} {t:TypeId} {B R:List zw}:Sq L pre g cs t B R→Sq (A++L) (A++pre) g cs t B R
theorem Sq.eq{L pre:List zw}{g:Nat}{cs:List Value}{t:TypeId}{B R:List zw}(h:Sq L pre g cs t B R):L=pre++(g,cs,t)::(B++R):=by
 induction h with
 |here=>rfl
 |tail _ ih=>rw[ih];rfl
 |app _ ih=>rw[ih,List.append_assoc]
theorem cP{f:FuncId}{xs:Array Value}{w0 W:World}{L pre:List zw}{gd:Nat}{V v:Value}{d d':Dw}{B R:List zw}{m:Nat}{Q:Ending→World→Prop}(hM:qU w0 W L)
 (hc:qU w0 W ((gd,uC V d,74)::(B++(pre++R)))→Calls Tryz.prog f xs W fun e w'=>e= .returned v∧∃V' B',Zv V' d'.els B' m∧qU w0 w' ((gd,uC V' d',74)::(B'++(pre++R))))
 (h:∀d1 V' B' W1,Hid (d'=d1)→Hid (Zv V' d1.els B' m)→qU w0 W1 (pre++(gd,uC V' d1,74)::(B'++R))→Q (.returned v) W1) (hs:Sq L pre gd (uC V d) 74 B R:=by((repeat constructor)<;>fail)):Calls Tryz.prog f xs W Q:=by
 have h1:=hs.eq;subst h1;refine(hc (zL hM (tW pre _ B R))).mono ?_;rintro e w' ⟨rfl,V',B',hO,hM'⟩;exact h d' V' B' w' (hide rfl) (hide hO) (zL hM' (tW pre _ B' R).symm)
theorem nO{w0 w:World}{gd:Nat}{V:Value}{d:Dw}{B R:List zw}{m:Nat}(c:Bool)(ax ay bx b_y cx cy r f s L n0 n:Int)(g:Bool)(hM:qU w0 w ((gd,uC V d,74)::(B++R)))(hO:Hid (Zv V d.els B m))(hL:0≤L∧L≤60000000)(hm:m≤100000:=by omega):
 Calls Tryz.prog 56 #[.pointer (some ⟨gd,0,none⟩),.agg #[.bool c,Iv ax,Iv ay,Iv bx,Iv b_y,Iv cx,Iv cy,Iv r,Iv f,Iv s,Iv L,Iv n0,.bool g],Iv n] w fun e w'=>e= .returned (.tuple #[])∧∃V' B',Zv V' (Gc d ⟨c,ax,ay,bx,b_y,cx,cy,r,f,s,L,n,g⟩).els B' (m+1)∧qU w0 w' ((gd,uC V' (Gc d ⟨c,ax,ay,bx,b_y,cx,cy,r,f,s,L,n,g⟩),74)::(B'++R)):=by
 have hO1:=hide hO.out.1;have hs:=ll hO.out hm
 have w1:IntKind.i64.wrap (kX d.els+L)=kX (Gc d ⟨c,ax,ay,bx,b_y,cx,cy,r,f,s,L,n,g⟩).els:=by
  rw[IntWalk.i64_in _ DL];exact(KG ⟨c,ax,ay,bx,b_y,cx,cy,r,f,s,L,n,d.gp⟩ d.els).symm
 go_enter Tryz.func56,Tryz.ntmps56;go_upto_region 1 with(first|(refine DU ?_;clear hM;intro g W hM));refine qu ?_;refine qP [(gd,uC V d,74)] hM DN ?_;(clear hM;intro W hM);refine rD 0 ?_;refine rD 1 ?_;refine rD 2 ?_;refine rD 3 ?_;refine rD 4 ?_;refine rD 5 ?_;refine dC 6 (fun K' hK'=> ?_);refine oS hM ?_;clear hM;intro W hM;refine rK hK' hM ?_;clear hK' K';refine rD 7 ?_;refine dC 8 (fun K' hK'=> ?_);refine oS hM ?_;clear hM;intro W hM;refine rK hK' hM ?_;clear hK' K';refine qF DN ?_;go_upto_region 3 with(first|(refine DU ?_;clear hM;intro g W hM));refine qu ?_;obtain⟨g,rfl⟩:=Dy hM;go_cut [] (fun wx=>∃V1 B1,Hid (bG V1 (d.els++[⟨c,ax,ay,bx,b_y,cx,cy,r,f,s,L,n,d.gp⟩]) B1 (m+1))∧qU w0 wx ((g,[.bool c,Iv ax,Iv ay,Iv bx,Iv b_y,Iv cx,Iv cy,Iv r,Iv f,Iv s,Iv L,Iv n,.bool d.gp],53)::((gd,[Iv d.px,Iv d.py,.bool false,V1,Iv (kX d.els)],74)::(B1++R))))
 case first=>
  refine qP [(g,[.bool c,Iv ax,Iv ay,Iv bx,Iv b_y,Iv cx,Iv cy,Iv r,Iv f,Iv s,Iv L,Iv n,.bool d.gp],53)] hM DN ?_;(clear hM;intro W hM);refine rD 0 ?_;refine rD 1 ?_;refine rD 2 ?_;refine rD 3 ?_;refine rD 4 ?_;refine rD 6 ?_;refine dT 5 7 (fun K' hK'=> ?_) (fun K' hK'=> ?_)
  ·
   first|refine oL hM ?_|refine oM hM ?_
   refine rK hK' hM ?_;clear hK' K';refine dC 7 (fun K' hK'=> ?_);refine Mx hM ?_;clear hM;intro gB W hM;refine rK hK' hM ?_;clear hK' K';refine dC 8 (fun K' hK'=> ?_);refine My (e:=⟨c,ax,ay,bx,b_y,cx,cy,r,f,s,L,n,d.gp⟩) hM hO1 hm ?_;clear hM;intro gA capA BA W HOA hM;simp only[List.cons_append,List.nil_append]at hM;refine rK hK' hM ?_;clear hK' K';refine rD 9 ?_;refine rD 10 ?_;refine rD 11 ?_;refine dC 12 (fun K' hK'=> ?_);refine NN hM Tryz.sizeOf32 ?_;clear hM;intro W hM;refine rK hK' hM ?_;clear hK' K';refine qF DN ?_;go_wp2_with fail
   all_goals
    go_meet;exact⟨_,BA,HOA,qD hM⟩
  ·
   refine Mx hM ?_;clear hM;intro gB W hM;refine rK hK' hM ?_;clear hK' K';refine dC 5 (fun K' hK'=> ?_)
   first|refine oL hM ?_|refine oM hM ?_
   refine rK hK' hM ?_;clear hK' K';refine dC 8 (fun K' hK'=> ?_);refine My (e:=⟨c,ax,ay,bx,b_y,cx,cy,r,f,s,L,n,d.gp⟩) hM hO1 hm ?_;clear hM;intro gA capA BA W HOA hM;simp only[List.cons_append,List.nil_append]at hM;refine rK hK' hM ?_;clear hK' K';refine rD 9 ?_;refine rD 10 ?_;refine rD 11 ?_;refine dC 12 (fun K' hK'=> ?_);refine NN hM Tryz.sizeOf32 ?_;clear hM;intro W hM;refine rK hK' hM ?_;clear hK' K';refine qF DN ?_;go_wp2_with fail
   all_goals
    go_meet;exact⟨_,BA,HOA,qD hM⟩
 case rest=>
 clear hM;obtain⟨V1,B1,hO2,hM⟩:=hcut;go_upto_region 4 with(first|(refine DU ?_;clear hM;intro g W hM));refine qu ?_;obtain⟨g,rfl⟩:=Dy hM;refine qP [(g,[.bool c,Iv ax,Iv ay,Iv bx,Iv b_y,Iv cx,Iv cy,Iv r,Iv f,Iv s,Iv L,Iv n,.bool d.gp],53)] hM DN ?_;(clear hM;intro W hM);refine rD 0 ?_;refine rD 1 ?_;refine rD 2 ?_;refine rD 3 ?_;refine rD 5 ?_;refine rD 6 ?_;refine dC 4 (fun K' hK'=> ?_)
 first|refine oL hM ?_|refine oM hM ?_
 refine rK hK' hM ?_;clear hK' K';refine rD 7 ?_;refine rD 8 ?_;refine rD 9 ?_;refine rD 10 ?_;refine dC 11 (fun K' hK'=> ?_);refine oS hM ?_;clear hM;intro W hM;refine rK hK' hM ?_;clear hK' K';refine qF DN ?_;go_wp2_with(first|(refine DU ?_;clear hM;intro g W hM))
 all_goals
  (refine bodyPost_end (v:= .tuple #[]) (by simp[results,Tryz.results56,go_sem]) rfl ?_;exact⟨rfl,V1,B1,⟨hO2.out,lm hO.out.2 hL⟩,qD hM⟩)
theorem Ze{w0 w:World}{gd:Nat}{V:Value}{d:Dw}{B R:List zw}{m:Nat}(qx qy n:Int)(hM:qU w0 w ((gd,uC V d,74)::(B++R)))(hO:Hid (Zv V d.els B m))(hm:m≤100000:=by omega):
 Calls Tryz.prog 20 #[.pointer (some ⟨gd,0,none⟩),.agg #[Iv qx,Iv qy],Iv n] w fun e w'=>e= .returned (.tuple #[])∧∃V' B',Zv V' (jf d qx qy n).els B' (m+1)∧qU w0 w' ((gd,uC V' (jf d qx qy n),74)::(B'++R)):=by
 by_cases hq:d.px=qx∧d.py=qy
 ·have HL:=hide (show jf d qx qy n=d by unfold jf;rw[if_pos hq]);obtain⟨rfl,rfl⟩:=hq;go_enter Tryz.func20,Tryz.ntmps20;go_upto_region 1 with(first|(refine DU ?_;clear hM;intro g W hM));refine qu ?_;obtain⟨g,rfl⟩:=Dy hM;refine qP [(g,[Iv d.px,Iv d.py],26),(gd,uC V d,74)] hM DN ?_;(clear hM;intro W hM);refine rD 0 ?_;refine rD 1 ?_;refine rD 2 ?_;refine rD 3 ?_;refine rD 4 ?_;refine rD 5 ?_;refine qF DN ?_;go_wp2_with(first|(refine DU ?_;clear hM;intro g W hM))
  all_goals
   (refine bodyPost_end (v:= .tuple #[]) (by simp[results,Tryz.results20,go_sem]) rfl ?_;exact⟨rfl,V,B,by rw[HL.out];exact jg hO.out DL,by rw[HL.out];exact qD hM⟩)
 ·have HL:=hide (show jf d qx qy n=xO d ⟨false,d.px,d.py,qx,qy,0,0,0,0,0,qY d.px d.py qx qy,n,false⟩ by unfold jf;rw[if_neg hq]);go_enter Tryz.func20,Tryz.ntmps20;go_upto_region 1 with(first|(refine DU ?_;clear hM;intro g W hM));refine qu ?_;obtain⟨g,rfl⟩:=Dy hM;refine qP [(g,[Iv qx,Iv qy],26),(gd,uC V d,74)] hM DN ?_;(clear hM;intro W hM);refine rD 0 ?_;refine rD 1 ?_;refine rD 2 ?_;refine rD 3 ?_;refine rD 4 ?_;refine dP 5 (v:= .bool true) hM ?_ (hv:=by(intro W0;go_simp;exact fun h1 h2=>hq ⟨h1,h2⟩));refine qu ?_;refine qF DN ?_;go_upto_region 2 with(first|(refine DU ?_;clear hM;intro g W hM));obtain⟨g,rfl⟩:=Dy hM;refine qP [(g,[Iv qx,Iv qy],26)] hM DN ?_;(clear hM;intro W hM);refine rD 0 ?_;refine rD 1 ?_;refine rD 2 ?_;refine rD 3 ?_;refine rD 5 ?_;refine rD 7 ?_;refine dC 4 (fun K' hK'=> ?_)
  first|refine oL hM ?_|refine oM hM ?_
  refine rK hK' hM ?_;clear hK' K';refine dC 6 (fun K' hK'=> ?_);go_wp2_with(first|(refine qf (yU d.px d.py qx qy _) ?_;clear hM;intro W1 hM)|(go_at_call 56;(with_reducible refine cP hM (fun hM'=>nO false d.px d.py qx qy 0 0 0 0 0 _ 0 n false hM' hO (UQ _ _ _ _)) ?_);clear hM;intro d1 V1 B1 W1 hd1 hO1 hM;simp only[List.cons_append,List.nil_append]at hM));refine rK hK' hM ?_;clear hK' K';refine dC 8 (fun K' hK'=> ?_);go_wp2_with(first|(refine qf (yU d.px d.py qx qy _) ?_;clear hM;intro W1 hM)|(go_at_call 56;(with_reducible refine cP hM (fun hM'=>nO false d.px d.py qx qy 0 0 0 0 0 _ 0 n false hM' hO (UQ _ _ _ _)) ?_);clear hM;intro d1 V1 B1 W1 hd1 hO1 hM;simp only[List.cons_append,List.nil_append]at hM));refine rK hK' hM ?_;clear hK' K';refine qF DN ?_;go_wp2_with(first|(refine DU ?_;clear hM;intro g W hM))
  all_goals
   (refine bodyPost_end (v:= .tuple #[]) (by simp[results,Tryz.results20,go_sem]) rfl ?_;exact⟨rfl,V1,B1,by rw[HL.out];have e:=hd1.out;subst e;exact hO1.out,by rw[HL.out];have e:=hd1.out;subst e;exact qD hM⟩)
theorem nP{w0 w:World}{gd:Nat}{V:Value}{d:Dw}{B R:List zw}{m:Nat}(cx cy r f s qx qy n:Int)(hM:qU w0 w ((gd,uC V d,74)::(B++R)))(hO:Hid (Zv V d.els B m))(hm:m≤100000:=by omega):
 Calls Tryz.prog 21 #[.pointer (some ⟨gd,0,none⟩),.agg #[Iv cx,Iv cy,Iv r,Iv f,Iv s],.agg #[Iv qx,Iv qy],Iv n] w fun e w'=>e= .returned (.tuple #[])∧∃V' B',Zv V' (vq d cx cy r f s qx qy n).els B' (m+1)∧qU w0 w' ((gd,uC V' (vq d cx cy r f s qx qy n),74)::(B'++R)):=by
 have TL:=fun W=>uY cx cy r f s W
 have hk0:=uP cx cy r f s;obtain⟨k,hk⟩:∃k,qX cx cy r f s=k:=⟨_,rfl⟩;rw[hk]at TL hk0;by_cases h1:1≤k
 ·have HL:=hide (show vq d cx cy r f s qx qy n=xO d ⟨true,d.px,d.py,qx,qy,cx,cy,r,f,s,k,n,false⟩ by unfold vq;rw[hk,if_pos h1]);clear hk;go_enter Tryz.func21,Tryz.ntmps21;go_upto_region 0 with fail;refine qu ?_;go_cut [6,5] (fun s6 s5 wx=>∃gq ga:Nat,s6= .pointer (some ⟨gq,0,none⟩)∧s5= .pointer (some ⟨ga,0,none⟩)∧qU w0 wx ((gq,[Iv qx,Iv qy],26)::(ga,[Iv cx,Iv cy,Iv r,Iv f,Iv s],51)::((gd,uC V d,74)::(B++R))))
  case first=>
   go_wp2_with(first|(refine DU ?_;clear hM;intro g W hM))
   all_goals
    go_meet;exact⟨_,_,rfl,rfl,hM⟩
  case rest=>
  clear hM;obtain⟨gq,ga,rfl,rfl,hM⟩:=hcut;go_upto_region 4 with(first|(refine DU ?_;clear hM;intro g W hM)|(refine qf (TL _) ?_;clear hM;intro W1 hM));refine qu ?_;refine qP [(gq,[Iv qx,Iv qy],26),(ga,[Iv cx,Iv cy,Iv r,Iv f,Iv s],51)] hM DN ?_;(clear hM;intro W hM);refine rD 0 ?_;refine rD 1 ?_;refine rD 2 ?_;refine rD 3 ?_;refine rD 5 ?_;refine rD 6 ?_;refine rD 7 ?_;refine rD 9 ?_;refine dC 4 (fun K' hK'=> ?_)
  first|refine oL hM ?_|refine oM hM ?_
  refine rK hK' hM ?_;clear hK' K';refine rD 8 ?_;refine dC 10 (fun K' hK'=> ?_);go_wp2_with(first|(go_at_call 56;(with_reducible refine cP hM (fun hM'=>nO true d.px d.py qx qy cx cy r f s _ 0 n false hM' hO hk0) ?_);clear hM;intro d1 V1 B1 W1 hd1 hO1 hM;simp only[List.cons_append,List.nil_append]at hM));refine rK hK' hM ?_;clear hK' K';refine qF DN ?_;go_wp2_with(first|(refine DU ?_;clear hM;intro g W hM))
  all_goals
   (refine bodyPost_end (v:= .tuple #[]) (by simp[results,Tryz.results21,go_sem]) rfl ?_;exact⟨rfl,V1,B1,by rw[HL.out];have e:=hd1.out;subst e;exact hO1.out,by rw[HL.out];have e:=hd1.out;subst e;exact qD (qD hM)⟩)
 ·have HL:=hide (show vq d cx cy r f s qx qy n=jf d qx qy n by unfold vq;rw[hk,if_neg h1]);clear hk;go_enter Tryz.func21,Tryz.ntmps21;go_upto_region 0 with fail;refine qu ?_;go_cut [6,5] (fun s6 s5 wx=>∃gq ga:Nat,s6= .pointer (some ⟨gq,0,none⟩)∧s5= .pointer (some ⟨ga,0,none⟩)∧qU w0 wx ((gq,[Iv qx,Iv qy],26)::(ga,[Iv cx,Iv cy,Iv r,Iv f,Iv s],51)::((gd,uC V d,74)::(B++R))))
  case first=>
   go_wp2_with(first|(refine DU ?_;clear hM;intro g W hM))
   all_goals
    go_meet;exact⟨_,_,rfl,rfl,hM⟩
  case rest=>
  clear hM;obtain⟨gq,ga,rfl,rfl,hM⟩:=hcut;go_wp2_with(first|(refine DU ?_;clear hM;intro g W hM)|(refine qf (TL _) ?_;clear hM;intro W1 hM)|(go_at_call 20;(with_reducible refine cP hM (fun hM'=>Ze qx qy n hM' hO) ?_);clear hM;intro d1 V1 B1 W1 hd1 hO1 hM;simp only[List.cons_append,List.nil_append]at hM))
  all_goals
   (refine bodyPost_ret (v:= .tuple #[]) (by simp[results,Tryz.results21,go_sem]) rfl ?_;exact⟨rfl,V1,B1,by rw[HL.out];have e:=hd1.out;subst e;exact hO1.out,by rw[HL.out];have e:=hd1.out;subst e;exact qD (qD hM)⟩)
theorem fV{w0 w:World}{gd:Nat}{V:Value}{d:Dw}{B R:List zw}{m:Nat}{Vl:Value}{Bl:List zw}{ml:Nat}(es:List El)(x:Tk)(hM:qU w0 w ((gd,uC V d,74)::(B++R)))(hO:Hid (Zv V d.els B m))(hl:Hid (bG Vl es Bl ml))(hml:ml≤1000)(hes:∀e∈es,Ga e)(hB:∀b∈Bl,b∈R)(hm:m+es.length≤90000:=by omega):
 Calls Tryz.prog 60 #[.pointer (some ⟨gd,0,none⟩),Vl,.agg x.cX.toArray] w fun e w'=>e= .returned (.tuple #[])∧∃V' B',Zv V' (gK x.n d es).els B' (m+es.length)∧qU w0 w' ((gd,uC V' (gK x.n d es),74)::(B'++R)):=by
 have hll:=hl.out.2;go_enter Tryz.func60,Tryz.ntmps60;go_upto_region 0 with fail;refine qu ?_;go_cut [5] (fun s5 wx=>∃gx:Nat,s5= .pointer (some ⟨gx,0,none⟩)∧qU w0 wx ((gx,x.cX,67)::((gd,uC V d,74)::(B++R))))
 case first=>
  go_wp2_with(first|(refine DU ?_;clear hM;intro g W hM))
  all_goals
   go_meet;exact⟨_,rfl,hM⟩
 case rest=>
 clear hM;obtain⟨gx,rfl,hM⟩:=hcut;obtain⟨ne,hne⟩:∃ne,es.length=ne:=⟨_,rfl⟩
 have hV:Hid (∃S cap,Vl= .slice S ne cap):=hide (by
  rcases Nat.eq_zero_or_pos es.length with h0|h0
  ·obtain⟨h1,_⟩:=hl.out;rw[h0]at h1;generalize es.flatMap El.cells=xs at h1;rw[←hne,h0];cases h1<;>exact⟨_,_,rfl⟩
  ·obtain⟨g,cap,cur,h,_⟩:=gQ hl.out h0;rw[←hne]
   exact⟨_,_,h⟩)
 obtain⟨S,cap,rfl⟩:=hV.out;have HNE:=hide hne;clear hV hne;go_wp2_with(first|(refine DU ?_;clear hM;intro g W hM));go_loopw [10] (fun i wx=>∃(k:Nat) (Vk:Value) (Bk:List zw),k≤es.length∧i=Iv k∧Hid (Zv Vk (gK x.n d (es.take k)).els Bk (m+k))∧qU w0 wx ((gx,x.cX,67)::(gd,uC Vk (gK x.n d (es.take k)),74)::(Bk++R))) (fun i _=>es.length-(intOf i).toNat)
 case atStart=>exact⟨0,V,B,Nat.zero_le _,rfl,hO,hM⟩
 case round=>
  clear hM;obtain⟨k,Vk,Bk,hk,rfl,hOk,hM⟩:=hrel;obtain⟨dk,hdk⟩:∃dk,gK x.n d (es.take k)=dk:=⟨_,rfl⟩;rw[hdk]at hOk hM;by_cases hlt:k<es.length
  ·obtain⟨e,he⟩:∃e,es[k]? =some e:=⟨_,List.getElem?_eq_getElem hlt⟩;obtain⟨ga,cap2,cur,e1,e2,hcur⟩:=gQ hl.out DL;injection e1 with e1 e3 e4;subst e1 e4;clear e3;have HLk:=PH (hB (ga,cur,53) (by rw[e2];exact List.mem_singleton.2 rfl));have HC:=hide (VA hcur rfl he);have hel:0≤e.L∧e.L≤60000000:=hes e (List.mem_of_getElem? he);have HN:=hide (show gK x.n d (es.take (k+1))=if 1≤e.L then Gc dk {e with n:=x.n}else dk by rw[Vd he,KF,hdk]);have hlt2:k<ne:=by have:=HNE.out;omega
   clear hdk he hcur;by_cases h1:1≤e.L
   ·go_wp2_with(first|(go_at_call 56;(with_reducible refine cP hM (fun hM'=>nO e.c e.ax e.ay e.bx e.b_y e.cx e.cy e.r e.f e.s e.L e.n x.n e.g hM' hOk hel) ?_);clear hM;intro d1 V1 B1 W1 hd1 hO1 hM;simp only[List.cons_append,List.nil_append]at hM)|((with_reducible refine lX ?_);refine sK hM rfl rfl rfl (by(repeat constructor);exact HLk) HC.out ?_)|(refine DU ?_;clear hM;intro g W hM))
    all_goals
     go_roundw
     case rel=>exact⟨k+1,V1,B1,hlt,by go_num,by rw[HN.out,if_pos h1];rw[show Gc dk {e with n:=x.n}=d1 from hd1.out];exact hO1,by rw[HN.out,if_pos h1];rw[show Gc dk {e with n:=x.n}=d1 from hd1.out];exact qD hM⟩
     case measure=>simp[intOf];omega
   ·go_wp2_with(first|((with_reducible refine lX ?_);refine sK hM rfl rfl rfl (by(repeat constructor);exact HLk) HC.out ?_)|(refine DU ?_;clear hM;intro g W hM))
    all_goals
     go_roundw
     case rel=>exact⟨k+1,Vk,Bk,hlt,by go_num,by rw[HN.out,if_neg h1];exact hide (jg hOk.out DL),by rw[HN.out,if_neg h1];exact qD hM⟩
     case measure=>simp[intOf];omega
  ·have hke:k=es.length:=DL;have HE:=hide (show gK x.n d es=dk by rw[←hdk,hke,List.take_length]);have hlt2:¬k<ne:=by have:=HNE.out;omega
   clear hdk;go_wp2_with(first|(refine DU ?_;clear hM;intro g W hM))
   all_goals
    (refine bodyPost_end (v:= .tuple #[]) (by simp[results,Tryz.results60,go_sem]) rfl ?_;exact⟨rfl,Vk,Bk,by rw[HE.out];exact jg hOk.out DL,by rw[HE.out];exact qD hM⟩)
end Go.Proofs.YtcgpbnlhnafhjaaGreatDoor
