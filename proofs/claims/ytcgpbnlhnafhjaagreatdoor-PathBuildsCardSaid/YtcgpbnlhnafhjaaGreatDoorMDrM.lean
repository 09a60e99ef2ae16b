/-
  The drawer of a path by boxes: add, line, arc.
-/
import Derived.Test.YtcgpbnlhnafhjaaGreatDoorMTurnA
import Derived.Test.YtcgpbnlhnafhjaaGreatDoorMPlan3
set_option maxRecDepth 100000
set_option maxHeartbeats 16000000
namespace Go.Proofs.YtcgpbnlhnafhjaaGreatDoor
open Go.RowKit
set_option linter.unusedVariables false
set_option linter.unusedSimpArgs false
theorem Ye{w0 w:World}{gd:Nat}{rad:Int}{V:Value}{d:Dw}{B R:List zw}{m:Nat}(c:Bool)(ax ay bx b_y cx cy r f s L n:Int)(g:Bool)(hM:qU w0 w ((gd,ba V d rad,64)::(B++R)))(hO:Hid (bG V d.els B m))(hm:m≤100000:=by omega):
 Calls Tryz.prog 38 #[.pointer (some ⟨gd,0,none⟩),.agg #[.bool c,Iv ax,Iv ay,Iv bx,Iv b_y,Iv cx,Iv cy,Iv r,Iv f,Iv s,Iv L,Iv n,.bool g]] w fun e w'=>e= .returned (.tuple #[])∧∃V' B',bG V' (xO d ⟨c,ax,ay,bx,b_y,cx,cy,r,f,s,L,n,g⟩).els B' (m+1)∧qU w0 w' ((gd,ba V' (xO d ⟨c,ax,ay,bx,b_y,cx,cy,r,f,s,L,n,g⟩) rad,64)::(B'++R)):=by
 have hM1:=hM;go_enter Tryz.func38,Tryz.ntmps38;go_upto_region 2 with(first|(refine DU ?_;clear hM;intro g W hM));refine qu ?_;obtain⟨g,rfl⟩:=Dy hM;refine qP [(g,[.bool c,Iv ax,Iv ay,Iv bx,Iv b_y,Iv cx,Iv cy,Iv r,Iv f,Iv s,Iv L,Iv n,.bool d.gp],53)] hM DN ?_;(clear hM;intro W hM);refine rD 0 ?_;refine rD 1 ?_;refine rD 2 ?_;refine rD 3 ?_;refine rD 5 ?_;refine dT 4 6 (fun K' hK'=> ?_) (fun K' hK'=> ?_)
 ·
  first|refine oL hM ?_|refine oM hM ?_
  refine rK hK' hM ?_;clear hK' K';refine dC 6 (fun K' hK'=> ?_);refine Mx hM ?_;clear hM;intro gB W hM;refine rK hK' hM ?_;clear hK' K';refine dC 7 (fun K' hK'=> ?_);refine My (e:=⟨c,ax,ay,bx,b_y,cx,cy,r,f,s,L,n,d.gp⟩) hM hO hm ?_;clear hM;intro gA capA BA W HOA hM;simp only[List.cons_append,List.nil_append]at hM;refine rK hK' hM ?_;clear hK' K';refine rD 8 ?_;refine rD 9 ?_;refine dC 10 (fun K' hK'=> ?_);refine NN hM Tryz.sizeOf32 ?_;clear hM;intro W hM;refine rK hK' hM ?_;clear hK' K';refine qF DN ?_;go_wp2_with(first|(refine DU ?_;clear hM;intro g W hM))
  all_goals
   (refine bodyPost_end (v:= .tuple #[]) (by simp[results,Tryz.results38,go_sem]) rfl ?_;exact⟨rfl,_,BA,HOA.out,qD (qD hM)⟩)
 ·
  refine Mx hM ?_;clear hM;intro gB W hM;refine rK hK' hM ?_;clear hK' K';refine dC 4 (fun K' hK'=> ?_)
  first|refine oL hM ?_|refine oM hM ?_
  refine rK hK' hM ?_;clear hK' K';refine dC 7 (fun K' hK'=> ?_);refine My (e:=⟨c,ax,ay,bx,b_y,cx,cy,r,f,s,L,n,d.gp⟩) hM hO hm ?_;clear hM;intro gA capA BA W HOA hM;simp only[List.cons_append,List.nil_append]at hM;refine rK hK' hM ?_;clear hK' K';refine rD 8 ?_;refine rD 9 ?_;refine dC 10 (fun K' hK'=> ?_);refine NN hM Tryz.sizeOf32 ?_;clear hM;intro W hM;refine rK hK' hM ?_;clear hK' K';refine qF DN ?_;go_wp2_with(first|(refine DU ?_;clear hM;intro g W hM))
  all_goals
   (refine bodyPost_end (v:= .tuple #[]) (by simp[results,Tryz.results38,go_sem]) rfl ?_;exact⟨rfl,_,BA,HOA.out,qD (qD hM)⟩)
theorem Zd{w0 w:World}{gd:Nat}{rad:Int}{V:Value}{d:Dw}{B R:List zw}{m:Nat}(qx qy n:Int)(hM:qU w0 w ((gd,ba V d rad,64)::(B++R)))(hO:Hid (bG V d.els B m))(hm:m≤100000:=by omega):
 Calls Tryz.prog 14 #[.pointer (some ⟨gd,0,none⟩),.agg #[Iv qx,Iv qy],Iv n] w fun e w'=>e= .returned (.tuple #[])∧∃V' B',bG V' (jf d qx qy n).els B' (m+1)∧qU w0 w' ((gd,ba V' (jf d qx qy n) rad,64)::(B'++R)):=by
 by_cases hq:d.px=qx∧d.py=qy
 ·have HL:=hide (show jf d qx qy n=d by unfold jf;rw[if_pos hq]);obtain⟨rfl,rfl⟩:=hq;go_enter Tryz.func14,Tryz.ntmps14;go_upto_region 1 with(first|(refine DU ?_;clear hM;intro g W hM));refine qu ?_;obtain⟨g,rfl⟩:=Dy hM;refine qP [(g,[Iv d.px,Iv d.py],26),(gd,ba V d rad,64)] hM DN ?_;(clear hM;intro W hM);refine rD 0 ?_;refine rD 1 ?_;refine rD 2 ?_;refine rD 3 ?_;refine rD 4 ?_;refine rD 5 ?_;refine qF DN ?_;go_wp2_with(first|refine qg ?_)
  all_goals
   (refine bodyPost_end (v:= .tuple #[]) (by simp[results,Tryz.results14,go_sem]) rfl ?_;exact⟨rfl,V,B,by rw[HL.out];exact⟨hO.out.1,by have:=hO.out.2;omega⟩,by rw[HL.out];exact qD hM⟩)
 ·have HL:=hide (show jf d qx qy n=xO d ⟨false,d.px,d.py,qx,qy,0,0,0,0,0,qY d.px d.py qx qy,n,false⟩ by unfold jf;rw[if_neg hq]);go_enter Tryz.func14,Tryz.ntmps14;go_upto_region 1 with(first|(refine DU ?_;clear hM;intro g W hM));refine qu ?_;obtain⟨g,rfl⟩:=Dy hM;refine qP [(g,[Iv qx,Iv qy],26),(gd,ba V d rad,64)] hM DN ?_;(clear hM;intro W hM);refine rD 0 ?_;refine rD 1 ?_;refine rD 2 ?_;refine rD 3 ?_;refine rD 4 ?_;refine dP 5 (v:= .bool true) hM ?_ (hv:=by(intro W0;go_simp;exact fun h1 h2=>hq ⟨h1,h2⟩));refine qu ?_;refine qF DN ?_;go_upto_region 2 with(first|refine qg ?_);obtain⟨g,rfl⟩:=Dy hM;refine qP [(g,[Iv qx,Iv qy],26)] hM DN ?_;(clear hM;intro W hM);refine rD 0 ?_;refine rD 1 ?_;refine rD 2 ?_;refine rD 3 ?_;refine rD 5 ?_;refine rD 6 ?_;refine rD 7 ?_;refine rD 8 ?_;refine rD 10 ?_;refine rD 12 ?_;refine dT 4 9 (fun K' hK'=> ?_) (fun K' hK'=> ?_)
  ·
   first|refine oL hM ?_|refine oM hM ?_
   refine rK hK' hM ?_;clear hK' K';refine dC 9 (fun K' hK'=> ?_)
   first|refine oL hM ?_|refine oM hM ?_
   refine rK hK' hM ?_;clear hK' K';refine dC 11 (fun K' hK'=> ?_);go_wp2_with(first|(refine qf (yE d.px d.py qx qy _) ?_;clear hM;intro W1 hM)|(go_at_call 38;refine cD hM (fun R' hM'=>Ye false d.px d.py qx qy 0 0 0 0 0 _ n false hM' hO) ?_;clear hM;intro d1 V1 B1 W1 hd1 hO1 hM;simp only[List.cons_append,List.nil_append]at hM));refine rK hK' hM ?_;clear hK' K';refine rD 13 ?_;refine dC 14 (fun K' hK'=> ?_);go_wp2_with(first|(refine qf (yE d.px d.py qx qy _) ?_;clear hM;intro W1 hM)|(go_at_call 38;refine cD hM (fun R' hM'=>Ye false d.px d.py qx qy 0 0 0 0 0 _ n false hM' hO) ?_;clear hM;intro d1 V1 B1 W1 hd1 hO1 hM;simp only[List.cons_append,List.nil_append]at hM));refine rK hK' hM ?_;clear hK' K';refine qF DN ?_;go_wp2_with(first|refine qg ?_)
   all_goals
    (refine bodyPost_end (v:= .tuple #[]) (by simp[results,Tryz.results14,go_sem]) rfl ?_;exact⟨rfl,V1,B1,by rw[HL.out,hd1.out];exact hO1.out,by rw[HL.out,hd1.out];exact qD hM⟩)
  ·
   first|refine oL hM ?_|refine oM hM ?_
   refine rK hK' hM ?_;clear hK' K';refine dT 4 11 (fun K' hK'=> ?_) (fun K' hK'=> ?_)
   ·
    first|refine oL hM ?_|refine oM hM ?_
    refine rK hK' hM ?_;clear hK' K';refine dC 11 (fun K' hK'=> ?_);go_wp2_with(first|(refine qf (yE d.px d.py qx qy _) ?_;clear hM;intro W1 hM)|(go_at_call 38;refine cD hM (fun R' hM'=>Ye false d.px d.py qx qy 0 0 0 0 0 _ n false hM' hO) ?_;clear hM;intro d1 V1 B1 W1 hd1 hO1 hM;simp only[List.cons_append,List.nil_append]at hM));refine rK hK' hM ?_;clear hK' K';refine rD 13 ?_;refine dC 14 (fun K' hK'=> ?_);go_wp2_with(first|(refine qf (yE d.px d.py qx qy _) ?_;clear hM;intro W1 hM)|(go_at_call 38;refine cD hM (fun R' hM'=>Ye false d.px d.py qx qy 0 0 0 0 0 _ n false hM' hO) ?_;clear hM;intro d1 V1 B1 W1 hd1 hO1 hM;simp only[List.cons_append,List.nil_append]at hM));refine rK hK' hM ?_;clear hK' K';refine qF DN ?_;go_wp2_with(first|refine qg ?_)
    all_goals
     (refine bodyPost_end (v:= .tuple #[]) (by simp[results,Tryz.results14,go_sem]) rfl ?_;exact⟨rfl,V1,B1,by rw[HL.out,hd1.out];exact hO1.out,by rw[HL.out,hd1.out];exact qD hM⟩)
   ·
    go_wp2_with(first|(refine qf (yE d.px d.py qx qy _) ?_;clear hM;intro W1 hM)|(go_at_call 38;refine cD hM (fun R' hM'=>Ye false d.px d.py qx qy 0 0 0 0 0 _ n false hM' hO) ?_;clear hM;intro d1 V1 B1 W1 hd1 hO1 hM;simp only[List.cons_append,List.nil_append]at hM));refine rK hK' hM ?_;clear hK' K';refine dC 4 (fun K' hK'=> ?_)
    first|refine oL hM ?_|refine oM hM ?_
    refine rK hK' hM ?_;clear hK' K';refine rD 13 ?_;refine dC 14 (fun K' hK'=> ?_);go_wp2_with(first|(refine qf (yE d.px d.py qx qy _) ?_;clear hM;intro W1 hM)|(go_at_call 38;refine cD hM (fun R' hM'=>Ye false d.px d.py qx qy 0 0 0 0 0 _ n false hM' hO) ?_;clear hM;intro d1 V1 B1 W1 hd1 hO1 hM;simp only[List.cons_append,List.nil_append]at hM));refine rK hK' hM ?_;clear hK' K';refine qF DN ?_;go_wp2_with(first|refine qg ?_)
    all_goals
     (refine bodyPost_end (v:= .tuple #[]) (by simp[results,Tryz.results14,go_sem]) rfl ?_;exact⟨rfl,V1,B1,by rw[HL.out,hd1.out];exact hO1.out,by rw[HL.out,hd1.out];exact qD hM⟩)
theorem nN{w0 w:World}{gd:Nat}{rad:Int}{V:Value}{d:Dw}{B R:List zw}{m:Nat}(cx cy r f s qx qy n:Int)(hM:qU w0 w ((gd,ba V d rad,64)::(B++R)))(hO:Hid (bG V d.els B m))(hm:m≤100000:=by omega):
 Calls Tryz.prog 15 #[.pointer (some ⟨gd,0,none⟩),.agg #[Iv cx,Iv cy,Iv r,Iv f,Iv s],.agg #[Iv qx,Iv qy],Iv n] w fun e w'=>e= .returned (.tuple #[])∧∃V' B',bG V' (vq d cx cy r f s qx qy n).els B' (m+1)∧qU w0 w' ((gd,ba V' (vq d cx cy r f s qx qy n) rad,64)::(B'++R)):=by
 have TL:=fun W=>gJ cx cy r f s W
 obtain⟨k,hk⟩:∃k,qX cx cy r f s=k:=⟨_,rfl⟩;rw[hk]at TL;by_cases h1:1≤k
 ·have HL:=hide (show vq d cx cy r f s qx qy n=xO d ⟨true,d.px,d.py,qx,qy,cx,cy,r,f,s,k,n,false⟩ by unfold vq;rw[hk,if_pos h1]);clear hk;go_enter Tryz.func15,Tryz.ntmps15;go_upto_region 0 with fail;refine qu ?_;go_cut [6,5] (fun s6 s5 wx=>∃gq ga:Nat,s6= .pointer (some ⟨gq,0,none⟩)∧s5= .pointer (some ⟨ga,0,none⟩)∧qU w0 wx ((gq,[Iv qx,Iv qy],26)::(ga,[Iv cx,Iv cy,Iv r,Iv f,Iv s],51)::(gd,ba V d rad,64)::(B++R)))
  case first=>
   go_wp2_with(first|(refine DU ?_;clear hM;intro g W hM))
   all_goals
    go_meet;exact⟨_,_,rfl,rfl,hM⟩
  case rest=>
  clear hM;obtain⟨gq,ga,rfl,rfl,hM⟩:=hcut;go_upto_region 3 with(first|refine qg ?_|(refine qf (TL _) ?_;clear hM;intro W1 hM));refine qu ?_;refine qP [(gq,[Iv qx,Iv qy],26),(ga,[Iv cx,Iv cy,Iv r,Iv f,Iv s],51)] hM DN ?_;(clear hM;intro W hM);refine rD 0 ?_;refine rD 1 ?_;refine rD 2 ?_;refine rD 3 ?_;refine rD 5 ?_;refine rD 6 ?_;refine rD 7 ?_;refine rD 8 ?_;refine dC 4 (fun K' hK'=> ?_)
  first|refine oL hM ?_|refine oM hM ?_
  refine rK hK' hM ?_;clear hK' K';refine rD 9 ?_;refine dC 10 (fun K' hK'=> ?_);go_wp2_with(first|(go_at_call 38;refine cD hM (fun R' hM'=>Ye true d.px d.py qx qy cx cy r f s _ n false hM' hO) ?_;clear hM;intro d1 V1 B1 W1 hd1 hO1 hM;simp only[List.cons_append,List.nil_append]at hM));refine rK hK' hM ?_;clear hK' K';refine qF DN ?_;go_wp2_with(first|refine qg ?_)
  all_goals
   (refine bodyPost_ret (v:= .tuple #[]) (by simp[results,Tryz.results15,go_sem]) rfl ?_;exact⟨rfl,V1,B1,by rw[HL.out,hd1.out];exact hO1.out,by rw[HL.out,hd1.out];exact qD (qD hM)⟩)
 ·have HL:=hide (show vq d cx cy r f s qx qy n=jf d qx qy n by unfold vq;rw[hk,if_neg h1]);clear hk;go_enter Tryz.func15,Tryz.ntmps15;go_upto_region 0 with fail;refine qu ?_;go_cut [6,5] (fun s6 s5 wx=>∃gq ga:Nat,s6= .pointer (some ⟨gq,0,none⟩)∧s5= .pointer (some ⟨ga,0,none⟩)∧qU w0 wx ((gq,[Iv qx,Iv qy],26)::(ga,[Iv cx,Iv cy,Iv r,Iv f,Iv s],51)::(gd,ba V d rad,64)::(B++R)))
  case first=>
   go_wp2_with(first|(refine DU ?_;clear hM;intro g W hM))
   all_goals
    go_meet;exact⟨_,_,rfl,rfl,hM⟩
  case rest=>
  clear hM;obtain⟨gq,ga,rfl,rfl,hM⟩:=hcut;go_wp2_with(first|refine qg ?_|(refine qf (TL _) ?_;clear hM;intro W1 hM)|(go_at_call 14;refine cD hM (fun R' hM'=>Zd qx qy n hM' hO) ?_;clear hM;intro d1 V1 B1 W1 hd1 hO1 hM;simp only[List.cons_append,List.nil_append]at hM))
  all_goals
   (refine bodyPost_end (v:= .tuple #[]) (by simp[results,Tryz.results15,go_sem]) rfl ?_;exact⟨rfl,V1,B1,by rw[HL.out,hd1.out];exact hO1.out,by rw[HL.out,hd1.out];exact qD (qD hM)⟩)
def mid(yc post:List Value):List Value:=yc++post
theorem uE{pre yc post:List Value}{o i:Nat}{v:Value}(hp:pre.length=o)(hv:yc[i]? =some v):(pre++mid yc post)[o+i]? =some v:=by
 subst hp;unfold mid;rw[List.getElem?_append_right DL,show pre.length+i-pre.length=i by omega,List.getElem?_append_left (List.getElem?_eq_some_iff.1 hv).1];exact hv
theorem cv{pre yc post:List Value}{o:Nat}{v:Value}(hp:pre.length=o)(hv:yc[0]? =some v):(pre++mid yc post)[o]? =some v:=uE (i:=0) hp hv
theorem sL{yc C post:List Value}{i n:Nat}(h:Part yc i n C):Part (yc++post) i n C:=by
 induction h with
 |nil=>exact .nil
 |take _ ih=>exact .take ih
 |drop _ ih=>exact .drop ih
theorem jK{yc C post:List Value}{i n:Nat}:∀{pre:List Value} {o:Nat},pre.length=o→Part yc i n C→Part (pre++mid yc post) (o+i) n C
 | [],o,hp,h=>by
   subst hp;rw[show([]:List Value).length+i=i by simp];exact(sL (post:=post) h:Part (yc++post) i n C)
 |c::pre,o,hp,h=>by
  subst hp;rw[show(c::pre).length+i=(pre.length+i)+1 by simp;omega];exact .drop (jK rfl h)
theorem ko{yc C post pre:List Value}{n o:Nat}(hp:pre.length=o)(h:Part yc 0 n C):Part (pre++mid yc post) o n C:=jK (i:=0) hp h
theorem lV{yc yc' new post:List Value}{i:Nat}(h:UZ yc i new yc'):UZ (yc++post) i new (yc'++post):=by
 induction h with
 |done=>exact .done
 |put _ ih=>exact .put ih
 |skip _ ih=>exact .skip ih
theorem vO{yc yc' new post:List Value}{i:Nat}:∀{pre:List Value} {o:Nat},pre.length=o→UZ yc i new yc'→UZ (pre++mid yc post) (o+i) new (pre++mid yc' post)
 | [],o,hp,h=>by
   subst hp;rw[show([]:List Value).length+i=i by simp];exact(lV (post:=post) h:UZ (yc++post) i new (yc'++post))
 |c::pre,o,hp,h=>by
  subst hp;rw[show(c::pre).length+i=(pre.length+i)+1 by simp;omega];exact .skip (vO rfl h)
section
variable{l:List Oper}{Q:Exit→Act→World→Prop}{a:Act}{w W:World}{L K:List zw}{o:Oper}{fuel:Nat}{listed:Array Bool}
theorem eP{P:Program}(i:Nat){v:Value}(hM:qU w W L)(h:wpAnyH P .any l.toArray Q (Held w K) fuel (listed.setIfInBounds i true) (a.put o.dst v) W)(hk:Ks K L:=by((repeat constructor)<;>fail))(hn:tG l i o:=by exact zF rfl)
 (hs:Region.noSelect l.toArray=true:=by kernel_rfl) (hf:Region.free .any l.toArray listed i=true:=by kernel_rfl) (hr:(Region.ready .any l.toArray listed).contains i=true:=by kernel_rfl)
 (hw:Region.wanted o (yielded l.toArray a.tmps)=true:=by rfl) (hv:∀W,(execOp a.eval o).run P W= .ok (.value v) W:=by(intro W0;go_simp<;>with_reducible rfl)) (hQ:∀c a w v,Q (.panic c) (a.put o.dst v) w→Q (.panic c) a w:=by exact fun _ _ _ _ h=>h):wpAnyH P .any l.toArray Q (Held w K) (fuel+1) listed a W:=
  lT hM hk.mem hn hs hf hr hw hv hQ h
theorem eL(i:Nat){v:Value}{cs:List Value}{t:TypeId}(hM:qU w W L)(h:wpAnyH Tryz.prog .any l.toArray Q (Held w K) fuel (listed.setIfInBounds i true) (a.put o.dst v) W)(hk:Ks K L:=by((repeat constructor)<;>fail))(hn:tG l i o:=by exact zF rfl)
 (hs:Region.noSelect l.toArray=true:=by kernel_rfl) (hf:Region.free .any l.toArray listed i=true:=by kernel_rfl) (hr:(Region.ready .any l.toArray listed).contains i=true:=by kernel_rfl) (hw:Region.wanted o (yielded l.toArray a.tmps)=true:=by rfl) {ty:TypeId} {x:Operand} (ho:o.op= .load ty x:=by rfl) {g off:Nat} (hx:a.eval x= .pointer (some ⟨g,off,none⟩):=by rfl)
 (hl:Lk K g cs t:=by((repeat constructor)<;>fail)) (hg:JJ.contains ty=true:=by rfl) (hv:cs[off]? =some v:=by rfl) (hQ:∀c a w v,Q (.panic c) (a.put o.dst v) w→Q (.panic c) a w:=by exact fun _ _ _ _ h=>h):wpAnyH Tryz.prog .any l.toArray Q (Held w K) (fuel+1) listed a W:=
  sI hM hk.mem hn hs hf hr hw ho hx hl (wP hg) hv hQ h
theorem eM(i:Nat){cs:List Value}{t:TypeId}{n:Nat}{C:List Value}(hM:qU w W L)(h:wpAnyH Tryz.prog .any l.toArray Q (Held w K) fuel (listed.setIfInBounds i true) (a.put o.dst (.agg C.toArray)) W)(hk:Ks K L:=by((repeat constructor)<;>fail))(hn:tG l i o:=by exact zF rfl)
 (hs:Region.noSelect l.toArray=true:=by kernel_rfl) (hf:Region.free .any l.toArray listed i=true:=by kernel_rfl) (hr:(Region.ready .any l.toArray listed).contains i=true:=by kernel_rfl) (hw:Region.wanted o (yielded l.toArray a.tmps)=true:=by rfl) {ty:TypeId} {x:Operand} (ho:o.op= .load ty x:=by rfl) {g off:Nat} (hx:a.eval x= .pointer (some ⟨g,off,none⟩):=by rfl)
 (hl:Lk K g cs t:=by((repeat constructor)<;>fail)) (hg:xJ.contains ty=true:=by rfl) (hz:List.lookup ty (ZN++mo)=some n:=by rfl) (hC:Part cs off n C:=by((repeat constructor)<;>fail)) (hQ:∀c a w v,Q (.panic c) (a.put o.dst v) w→Q (.panic c) a w:=by exact fun _ _ _ _ h=>h):wpAnyH Tryz.prog .any l.toArray Q (Held w K) (fuel+1) listed a W:=
  lS hM hk.mem hn hs hf hr hw ho hx hl (JK hg) (uT hz) hC hQ h
theorem eS{P:Program}(i:Nat)(hM:qU w W L)(h:wpAnyH P .any l.toArray Q (Held w K) fuel (listed.setIfInBounds i true) (a.put o.dst undef) W)(hk:Ks K L:=by((repeat constructor)<;>fail))(hn:tG l i o:=by exact zF rfl)
 (hs:Region.noSelect l.toArray=true:=by kernel_rfl) (hf:Region.free .any l.toArray listed i=true:=by kernel_rfl) (hr:(Region.ready .any l.toArray listed).contains i=true:=by kernel_rfl)
 (hw:Region.wanted o (yielded l.toArray a.tmps)=false:=by rfl) (hQ:∀c a w v,Q (.panic c) (a.put o.dst v) w→Q (.panic c) a w:=by exact fun _ _ _ _ h=>h):wpAnyH P .any l.toArray Q (Held w K) (fuel+1) listed a W:=
  lU hM hk.mem hn hs hf hr hw hQ h
theorem xP{P:Program}(i:Nat){v:Value}(hM:qU w W L)(hk:Ks K L:=by((repeat constructor)<;>fail))(hn:tG l i o:=by exact zF rfl)
 (hs:Region.noSelect l.toArray=true:=by kernel_rfl) (hf:Region.free .any l.toArray listed i=true:=by kernel_rfl) (hr:(Region.ready .any l.toArray listed).contains i=true:=by kernel_rfl)
 (hw:Region.wanted o (yielded l.toArray a.tmps)=true:=by rfl) (hv:∀W,(execOp a.eval o).run P W= .ok (.value v) W:=by(intro W0;go_simp<;>with_reducible rfl)) (hQ:∀c a w v,Q (.panic c) (a.put o.dst v) w→Q (.panic c) a w:=by exact fun _ _ _ _ h=>h):Ba i (wpAnyH P .any l.toArray Q (Held w K) fuel (listed.setIfInBounds i true) (a.put o.dst v) W) (wpAnyH P .any l.toArray Q (Held w K) (fuel+1) listed a W):=fun h=>eP i hM h hk hn hs hf hr hw hv hQ
theorem xL(i:Nat){v:Value}{cs:List Value}{t:TypeId}(hM:qU w W L)(hk:Ks K L:=by((repeat constructor)<;>fail))(hn:tG l i o:=by exact zF rfl){ty:TypeId}{x:Operand}(ho:o.op= .load ty x:=by rfl)
 (hg:JJ.contains ty=true:=by rfl) (hs:Region.noSelect l.toArray=true:=by kernel_rfl) (hf:Region.free .any l.toArray listed i=true:=by kernel_rfl) (hr:(Region.ready .any l.toArray listed).contains i=true:=by kernel_rfl) (hw:Region.wanted o (yielded l.toArray a.tmps)=true:=by rfl)
 {g off:Nat} (hx:a.eval x= .pointer (some ⟨g,off,none⟩):=by rfl) (hl:Lk K g cs t:=by((repeat constructor)<;>fail)) (hv:cs[off]? =some v:=by rfl) (hQ:∀c a w v,Q (.panic c) (a.put o.dst v) w→Q (.panic c) a w:=by exact fun _ _ _ _ h=>h):Ba i (wpAnyH Tryz.prog .any l.toArray Q (Held w K) fuel (listed.setIfInBounds i true) (a.put o.dst v) W) (wpAnyH Tryz.prog .any l.toArray Q (Held w K) (fuel+1) listed a W):=fun h=>eL i hM h hk hn hs hf hr hw ho hx hl hg hv hQ
theorem xM(i:Nat){cs:List Value}{t:TypeId}{n:Nat}{C:List Value}(hM:qU w W L)(hk:Ks K L:=by((repeat constructor)<;>fail))(hn:tG l i o:=by exact zF rfl){ty:TypeId}{x:Operand}(ho:o.op= .load ty x:=by rfl)
 (hg:xJ.contains ty=true:=by rfl) (hs:Region.noSelect l.toArray=true:=by kernel_rfl) (hf:Region.free .any l.toArray listed i=true:=by kernel_rfl) (hr:(Region.ready .any l.toArray listed).contains i=true:=by kernel_rfl) (hw:Region.wanted o (yielded l.toArray a.tmps)=true:=by rfl)
 {g off:Nat} (hx:a.eval x= .pointer (some ⟨g,off,none⟩):=by rfl) (hl:Lk K g cs t:=by((repeat constructor)<;>fail)) (hz:List.lookup ty (ZN++mo)=some n:=by rfl) (hC:Part cs off n C:=by((repeat constructor)<;>fail)) (hQ:∀c a w v,Q (.panic c) (a.put o.dst v) w→Q (.panic c) a w:=by exact fun _ _ _ _ h=>h):Ba i (wpAnyH Tryz.prog .any l.toArray Q (Held w K) fuel (listed.setIfInBounds i true) (a.put o.dst (.agg C.toArray)) W) (wpAnyH Tryz.prog .any l.toArray Q (Held w K) (fuel+1) listed a W):=fun h=>eM i hM h hk hn hs hf hr hw ho hx hl hg hz hC hQ
theorem xS{P:Program}(i:Nat)(hM:qU w W L)(hk:Ks K L:=by((repeat constructor)<;>fail))(hn:tG l i o:=by exact zF rfl)
 (hs:Region.noSelect l.toArray=true:=by kernel_rfl) (hf:Region.free .any l.toArray listed i=true:=by kernel_rfl) (hr:(Region.ready .any l.toArray listed).contains i=true:=by kernel_rfl)
 (hw:Region.wanted o (yielded l.toArray a.tmps)=false:=by rfl) (hQ:∀c a w v,Q (.panic c) (a.put o.dst v) w→Q (.panic c) a w:=by exact fun _ _ _ _ h=>h):Ba i (wpAnyH P .any l.toArray Q (Held w K) fuel (listed.setIfInBounds i true) (a.put o.dst undef) W) (wpAnyH P .any l.toArray Q (Held w K) (fuel+1) listed a W):=fun h=>eS i hM h hk hn hs hf hr hw hQ
theorem rE(i:Nat){G' G H:Prop}(k:H)(s:Ba i G' G:=by first|exact xS _ hM|exact xL _ hM|exact xM _ hM|exact xP _ hM|fail)(n:G'=H:=by conv=>lhs;try simp only[pS,pN,sA,sB,sC]):G:=s (n.mpr k)
theorem eC{P:Program}(i:Nat)(h:∀K':Act→World→Prop,Shut (∀a w1,Held w K w1→wpAnyH P .any l.toArray Q (Held w K) fuel (listed.setIfInBounds i true) a w1→K' a w1)→Oper.wp P o a W K' Q)
 (hn:tG l i o:=by exact zF rfl) (hr:Region.ready .any l.toArray listed=[i]:=by kernel_rfl) (hw:Region.wanted o (yielded l.toArray a.tmps)=true:=by rfl):wpAnyH P .any l.toArray Q (Held w K) (fuel+1) listed a W:=mq hn hr hw h
theorem Mz{P:Program}(i:Nat)(hM:qU w W L)(h:wpAnyH P .any l.toArray Q (Held w K) fuel (listed.setIfInBounds i true) (a.put o.dst undef) W)(hk:Ks K L:=by((repeat constructor)<;>fail))(hn:tG l i o:=by exact zF rfl)(hr:Region.ready .any l.toArray listed=[i]:=by kernel_rfl)
 (hw:Region.wanted o (yielded l.toArray a.tmps)=false:=by rfl):wpAnyH P .any l.toArray Q (Held w K) (fuel+1) listed a W:=sJ hM hk.mem hn hr hw h
end
section
variable{Q:Exit→Act→World→Prop}{a:Act}{w W:World}{L:List zw}{o:Oper}{X:Act→World→Prop}
theorem oO{v:Value}{ty:TypeId}{x:Operand}{g off:Nat}(hM:qU w W L)(hc:w.cell? ⟨g,off,none⟩=some v)(h:X (a.put o.dst v) W)(ho:o.op= .load ty x:=by rfl)(hx:a.eval x= .pointer (some ⟨g,off,none⟩):=by rfl)(hg:JJ.contains ty=true:=by rfl):o.wp Tryz.prog a W X Q:=by
 have hs:=wP hg;unfold Oper.wp execOp;simp only[ho,hx,Instr.loadAt,Instr.sureAddr,Sem.run_bind,Sem.run_pure,Result.andThen_ok,loadVar,hs];have hl:(load ⟨g,off,none⟩).run Tryz.prog W= .ok v W:=by simp[hM.old hc]
 simp[hl];exact h
end
theorem Bc{w:World}{b off:Nat}{x:En}(h:uz w b off x):w.cell? ⟨b,off+1,none⟩=some (.int .u8 x.ty):=h 1 _ rfl
theorem VB{cs new:List Value}{off:Nat}(h:off+new.length≤cs.length)(i:Nat):(yK cs off new)[i]? =if i<off then cs[i]? else if i<off+new.length then new[i-off]? else cs[i]? :=by
 unfold yK;have h1:(cs.take off).length=off:=by rw[List.length_take];omega
 by_cases a:i<off
 ·rw[if_pos a,List.getElem?_append_left DL,List.getElem?_take,if_pos a]
 ·rw[if_neg a,List.getElem?_append_right DL,h1];by_cases b:i<off+new.length
  ·rw[if_pos b,List.getElem?_append_left DL]
  ·rw[if_neg b,List.getElem?_append_right DL,List.getElem?_drop];congr 1;omega
theorem wS{cs new:List Value}{off:Nat}(h:off+new.length≤cs.length):(yK cs off new).length=cs.length:=by
 unfold yK;simp;omega
theorem gi(t:Tk):t.cells.length=15:=rfl
theorem Qe(ts:List Tk):(ts.flatMap Tk.cells).length=ts.length*15:=by
 induction ts with
 |nil=>rfl
 |cons t ts ih=>rw[List.flatMap_cons,List.length_append,ih,gi,List.length_cons];omega
theorem Bd(ts:List Tk)(k i:Nat)(hi:i<15):(ts.flatMap Tk.cells)[k*15+i]? =(ts[k]?).bind (fun t=>t.cells[i]?):=by
 induction ts generalizing k with
 |nil=>simp
 |cons t ts ih=>
  rw[List.flatMap_cons]
  cases k with
  |zero=>
   rw[Nat.zero_mul,Nat.zero_add,List.getElem?_append_left (by rw[gi];omega)];rfl
  |succ k=>
   rw[List.getElem?_append_right (by rw[gi];omega),gi,show(k+1)*15+i-15=k*15+i by omega,ih k];rfl
theorem lW{ts:List Tk}{cur new:List Value}{k off:Nat}{t t':Tk}(hcur:cur.take (ts.length*15)=ts.flatMap Tk.cells)(hk:ts[k]? =some t)(ho:off+new.length≤15)(hs:yK t.cells off new=t'.cells):
 (yK cur (k*15+off) new).take ((ts.set k t').length*15)=(ts.set k t').flatMap Tk.cells∧(yK cur (k*15+off) new).length=cur.length:=by
 have hkl:=(List.getElem?_eq_some_iff.1 hk).1
 have hlen:ts.length*15≤cur.length:=by
  have:=congrArg List.length hcur;rw[List.length_take,Qe]at this;omega
 have hb:k*15+off+new.length≤cur.length:=DL;refine⟨?_,wS hb⟩;rw[List.length_set];apply List.ext_getElem?;intro i;rw[List.getElem?_take];by_cases hi:i<ts.length*15
 ·rw[if_pos hi];obtain⟨q,r,rfl,hr⟩:∃q r,i=q*15+r∧r<15:=⟨i/15,i%15,by omega,DL⟩;rw[Bd _ _ _ hr,VB hb]
  have hold:cur[q*15+r]? =(ts[q]?).bind (fun t=>t.cells[r]?):=by
   rw[←Bd _ _ _ hr,←hcur,List.getElem?_take,if_pos hi]
  have hq:q<ts.length:=DL;by_cases hqk:q=k
  ·subst hqk;rw[List.getElem?_set_self hq,hold,hk]
   show _=t'.cells[r]?
   rw[←hs,VB (by rw[gi];omega)]
   show(if _ then t.cells[r]? else if _ then _ else t.cells[r]?)=_
   by_cases c1:r<off
   ·rw[if_pos DL,if_pos c1]
   ·rw[if_neg DL,if_neg c1];by_cases c2:r<off+new.length
    ·rw[if_pos DL,if_pos c2];congr 1;omega
    ·rw[if_neg DL,if_neg c2]
  ·rw[List.getElem?_set_ne (Ne.symm hqk),hold];by_cases c1:q*15+r<k*15+off
   ·rw[if_pos c1]
   ·rw[if_neg c1];rw[if_neg DL]
 ·rw[if_neg hi,List.getElem?_eq_none (by rw[Qe,List.length_set];omega)]
section
variable{P:Program}{w W:World}{L L':List zw}{ops:Array Oper}{rest:List Oper}{o:Oper}{a:Act}{Q:Exit→Act→World→Prop}
end
theorem QF{ts:List Tk}{cur:List Value}{k:Nat}{y:Tk}(hcur:cur.take (ts.length*15)=ts.flatMap Tk.cells)(hk:ts[k]? =some y):
 ∃pre post,cur=pre++mid y.cells post∧pre.length=k*15∧∀y':Tk,(pre++mid y'.cells post).take ((ts.set k y').length*15)=(ts.set k y').flatMap Tk.cells:=by
 have hkl:=(List.getElem?_eq_some_iff.1 hk).1
 have hlen:ts.length*15≤cur.length:=by
  have:=congrArg List.length hcur;rw[List.length_take,Qe]at this;omega
 have hs:∀y':Tk,yK cur (k*15) y'.cells=cur.take (k*15)++mid y'.cells (cur.drop (k*15+15)):=fun y'=>rfl
 have key:∀y':Tk,(yK cur (k*15) y'.cells).take ((ts.set k y').length*15)=(ts.set k y').flatMap Tk.cells:=fun y'=>(lW (off:=0) hcur hk (by rw[gi];omega) (by
  unfold yK
  rw[List.take_zero,List.nil_append,gi,List.drop_eq_nil_of_le (by rw[gi];omega),List.append_nil])).1
 refine⟨cur.take (k*15),cur.drop (k*15+15),?_,by rw[List.length_take];omega,fun y'=>by rw[←hs];exact key y'⟩
 have h1:(cur.drop (k*15)).take 15=y.cells:=by
  apply List.ext_getElem?;intro i;rw[List.getElem?_take];by_cases hi:i<15
  ·rw[if_pos hi,List.getElem?_drop];have h2:=Bd ts k i hi;rw[←hcur,List.getElem?_take,if_pos DL,hk]at h2;exact h2
  ·rw[if_neg hi,List.getElem?_eq_none (by rw[gi];omega)]
 have h2:cur.drop (k*15)=y.cells++cur.drop (k*15+15):=by
  rw[←h1,←List.drop_drop,List.take_append_drop]
 unfold mid;rw[←h2,List.take_append_drop]
end Go.Proofs.YtcgpbnlhnafhjaaGreatDoor
