/-
  The walk of the law: a flight that keeps to the prediction along the path of a plan is at the end of each leg at the tick that is predicted.
-/
import Derived.Test.YtiegohjobhehcaaGreatDoorMDrB
import Derived.Test.YtiegohjobhehcaaGreatDoorMRails
import Derived.Test.YtiegohjobhehcaaGreatDoorMPatA
import Derived.Test.YtiegohjobhehcaaGreatDoorCards
import Derived.Test.YtiegohjobhehcaaGreatDoorTie
set_option maxRecDepth 100000
set_option maxHeartbeats 16000000
namespace Go.Proofs.YtiegohjobhehcaaGreatDoor
open Go.RowKit
set_option linter.unusedVariables false
set_option linter.unusedSimpArgs false
theorem ED{w W0 W':World}{L B:List qZ}(h:qF w W0 L)(k:qF W0 W' B):qF w W' (L++B):=by
 have h1:=qD h k.below;refine⟨h1.below,fun g cs t hm=> ?_,?_⟩
 ·rcases List.mem_append.1 hm with hm|hm
  ·exact h1.rows g cs t hm
  ·have:=k.rows g cs t hm;exact⟨Nat.le_trans h.below.size this.1,this.2⟩
 ·rw[List.map_append,List.nodup_append];refine⟨h.nodup,k.nodup,fun a ha b hb he=> ?_⟩;obtain⟨⟨x1,x2,x3⟩,hx,e1⟩:=List.mem_map.1 ha;obtain⟨⟨y1,y2,y3⟩,hy,e2⟩:=List.mem_map.1 hb;have q1:=h.lt hx;have q2:=(k.rows y1 y2 y3 hy).1;simp only at e1 e2;omega
theorem Sy{w W:World}{L B:List qZ}{SV:Option Addr}{n capV:Nat}{els:List El}{m:Nat}(hM:qF w W L)(hO:tO (.slice SV n capV) els B m)(hB:∀b∈B,b∈L):uW W SV els:=by
 intro k x hk;obtain⟨g,cap,cur,e,rfl,hcur⟩:=Jr hO (by have:=(List.getElem?_eq_some_iff.1 hk).1;omega);injection e with e1 e2 e3;subst e1;refine⟨g,0,rfl,?_⟩;have hr:=VP hcur rfl hk;have hg:=hM.rows g cur _ (hB _ (.head _))
 have key:∀(i:Nat) (v:Value),x.cells[i]? =some v→W.cell? ⟨g,k*13+i,none⟩=some v:=fun i v hv=>by
  rw[cell_of_row W g _ cur.toArray _ (0,0) hg.2];have hi:i<13:=(List.getElem?_eq_some_iff.1 hv).1;rw[←hr,List.getElem?_take,if_pos hi,List.getElem?_drop]at hv;simpa using hv
 rw[Nat.zero_add];exact⟨key 0 _ rfl,key 1 _ rfl,key 2 _ rfl,key 3 _ rfl,key 4 _ rfl,key 5 _ rfl,key 6 _ rfl,key 7 _ rfl,key 8 _ rfl,key 9 _ rfl,key 10 _ rfl,key 11 _ rfl,key 12 _ rfl⟩
theorem EQ{cur:List Value}{els:List El}{k:Nat}{x:El}(hcur:cur.take (els.length*13)=els.flatMap El.cells)(hx:els[k]? =some x){i:Nat}{v:Value}(hv:x.cells[i]? =some v):cur[k*13+i]? =some v:=by
 have hi:i<13:=(List.getElem?_eq_some_iff.1 hv).1;rw[←VP hcur rfl hx,List.getElem?_take,if_pos hi,List.getElem?_drop]at hv;exact hv
theorem Sz{l:List En}{fx fy:Int}{R:Int×Int}{T:List Tk×Int×Int}(h:(uk l fx fy R T).2.2≠0):(uk l fx fy R T).1=[]:=by
 unfold uk at h⊢;by_cases h1:T.2.2≠0
 ·rw[if_pos h1]
 rw[if_neg h1]at h⊢;by_cases h2:R.2≠0
 ·rw[if_pos h2]
 rw[if_neg h2]at h⊢;generalize T.1=ts at*
 cases ts with
 |nil=>rfl
 |cons x r=>
  dsimp only at h⊢;by_cases h3:(jm l R.1 true false ⟨[],fx,fy,false⟩ x r).2.2≠0
  ·rw[if_pos h3]
  rw[if_neg h3]at h⊢;by_cases h4:((jm l R.1 true false ⟨[],fx,fy,false⟩ x r).1.els.length:Int)>500
  ·rw[if_pos h4]
  rw[if_neg h4]at h;exact absurd rfl h
theorem qze{α:Type}{l:List α}{n:Nat}(h:l.length=n+1):∃x r,l=x::r∧r.length=n:=by
 cases l with
 |nil=>cases h
 |cons x r=>exact⟨x,r,rfl,by simpa using h⟩
theorem qz6{H:Type}{enc:TypeId×Value→H}{W:World}{held:Bool}{v:Value}{d:DataW H}{ps:List MemPlace}(h:DataW.Trod enc Tryz.prog W 0 (fun _=>true) held 42 v d ps)(hv:∃l:List Value,v= .agg l.toArray∧l.length=36):
 ∃(x:Su) (f:Nat→Nd),v= .agg x.cells.toArray∧xF W x f:=by
 obtain⟨l,rfl,hl⟩:=hv;obtain⟨c0,l0,rfl,h0⟩:=qze hl;obtain⟨c1,l1,rfl,h1⟩:=qze h0;obtain⟨c2,l2,rfl,h2⟩:=qze h1;obtain⟨c3,l3,rfl,h3⟩:=qze h2;obtain⟨c4,l4,rfl,h4⟩:=qze h3;obtain⟨c5,l5,rfl,h5⟩:=qze h4;obtain⟨c6,l6,rfl,h6⟩:=qze h5;obtain⟨c7,l7,rfl,h7⟩:=qze h6;obtain⟨c8,l8,rfl,h8⟩:=qze h7;obtain⟨c9,l9,rfl,h9⟩:=qze h8;obtain⟨c10,l10,rfl,h10⟩:=qze h9;obtain⟨c11,l11,rfl,h11⟩:=qze h10;obtain⟨c12,l12,rfl,h12⟩:=qze h11;obtain⟨c13,l13,rfl,h13⟩:=qze h12;obtain⟨c14,l14,rfl,h14⟩:=qze h13;obtain⟨c15,l15,rfl,h15⟩:=qze h14;obtain⟨c16,l16,rfl,h16⟩:=qze h15;obtain⟨c17,l17,rfl,h17⟩:=qze h16;obtain⟨c18,l18,rfl,h18⟩:=qze h17;obtain⟨c19,l19,rfl,h19⟩:=qze h18;obtain⟨c20,l20,rfl,h20⟩:=qze h19;obtain⟨c21,l21,rfl,h21⟩:=qze h20;obtain⟨c22,l22,rfl,h22⟩:=qze h21;obtain⟨c23,l23,rfl,h23⟩:=qze h22;obtain⟨c24,l24,rfl,h24⟩:=qze h23;obtain⟨c25,l25,rfl,h25⟩:=qze h24;obtain⟨c26,l26,rfl,h26⟩:=qze h25;obtain⟨c27,l27,rfl,h27⟩:=qze h26;obtain⟨c28,l28,rfl,h28⟩:=qze h27;obtain⟨c29,l29,rfl,h29⟩:=qze h28;obtain⟨c30,l30,rfl,h30⟩:=qze h29;obtain⟨c31,l31,rfl,h31⟩:=qze h30;obtain⟨c32,l32,rfl,h32⟩:=qze h31;obtain⟨c33,l33,rfl,h33⟩:=qze h32;obtain⟨c34,l34,rfl,h34⟩:=qze h33;obtain⟨c35,l35,rfl,h35⟩:=qze h34;obtain rfl:=List.length_eq_zero_iff.1 h35;obtain⟨fuel,hT⟩:=h;obtain⟨x,f,hx,hS⟩:=WP hT;exact⟨x,f,by rw[hx],hS⟩
theorem qzc{α:Type}{l:List α}(h:l.length=3):∃x0 x1 x2:α,l=[x0,x1,x2]:=by
 match l,h with
 | [x0,x1,x2],_=>exact⟨x0,x1,x2,rfl⟩
theorem qzd{α:Type}{l:Array α}(h:l.toList.length=3):∃x0 x1 x2:α,l= #[x0,x1,x2]:=by
 obtain⟨l⟩:=l;obtain⟨x0,x1,x2,rfl⟩:=qzc h;exact⟨x0,x1,x2,rfl⟩
theorem EF(ax ay bx b_y k:Int)(w:World)(h:Um ax ay bx b_y k)(hk:0≤k∧k≤1000):
 Calls Tryz.prog 9 #[.agg #[Iv ax,Iv ay],.agg #[Iv bx,Iv b_y],Iv k] w fun e w'=>e= .returned (.bool true)∧Below w.heap.size w w':=by
 have hM:=qo w;obtain⟨⟨h1,h2⟩,h3,h4⟩:=h;have w1:=IntWalk.i64_in (ax-bx) qg;have w2:=IntWalk.i64_in (bx-ax) qg;have w3:=IntWalk.i64_in (ay-b_y) qg;have w4:=IntWalk.i64_in (b_y-ay) qg;have d1:=decide_eq_true h1;have d2:=decide_eq_true h2;have d3:=decide_eq_true h3;have d4:=decide_eq_true h4;go_enter Tryz.func9,Tryz.ntmps9;go_wp2_with(first|(refine qe ?_;clear hM;intro g W hM))
 all_goals
  go_ret;exact⟨by first|rfl|simp[*],hM.below⟩
theorem RN(w:World):Calls Tryz.prog 4 #[] w fun e w'=>e= .returned (.bool true)∧Below w.heap.size w w':=by
 have hM:=qo w
 have hc:qO 0 0 1 0=(32400000,0):=by
  have:=Rt 1 qG;unfold qO yQ gY;simp[qw,this]
 have C:=fun W=>yF 0 0 1 0 W
 simp only[hc]at C;go_enter Tryz.func4,Tryz.ntmps4;go_wp2_with(first|(go_at_call 10;refine cb hM (C _) ?_;clear hM;intro W1 hM))
 all_goals
  go_ret;exact⟨rfl,hM.below⟩
theorem qqx{W:World}(pa pb:ByteArray)(S:Option Addr)(l:List En)(cap:Nat)(act:Int)(s0 s1 s2 s3 s4 s5 s6 s7:Int)(u:Su)(f0:Nat→Nd)(ha:pa.size≤maxLen)(hb:pb.size≤maxLen)(hact:qz act)(hp:Hid (Ys W S l))(hxs:Hid (∀(k:Nat) (x:En),l[k]? =some x→Cd x))(hs0:qz s0)(hs1:qz s1)(hs2:qz s2)(hs3:qz s3)(hs4:qz s4)(hs5:qz s5)(hs6:qz s6)(hs7:qz s7)(HS:Hid (xF W u f0))(hL:laidMetH Tryz.prog da W)(w:World)(hw:w=W:=by rfl):
 Calls Tryz.prog 3 #[.agg #[.string pa,.string pb,.slice S l.length cap,Iv act],.agg #[Iv s0,Iv s1,Iv s2,Iv s3,Iv s4,Iv s5,Iv s6,Iv s7],.agg u.cells.toArray] w fun e w'=>e= .returned (.bool true)∧Below w.heap.size w w':=by
 subst hw;have hu:=hide (qz3 hL);clear hL;have BA:=fun W h1 h2=>fD pa pb S l cap act s0 s1 s2 s4 s5 s6 s7 W ha hb h1 hxs hs2 hs6 h2
 obtain⟨Q,hQ⟩:∃Q,uk l s0 s1 (ZF s4 s5) (zV pa pb l act s0 s1 s2 s4 s5 s6 s7)=Q:=⟨_,rfl⟩;rw[hQ]at BA;have HQ:=hide hQ;obtain⟨els,idx,er⟩:=Q;by_cases he:er=0;rotate_left 1
 ·have hne:(er !=0)=true:=by simpa using he
  clear he hQ HQ;have hM:=qo w;go_enter Tryz.func3,Tryz.ntmps3;go_upto_region 0 with fail;go_cut [3,4,5] (fun t3 t4 t5 wx=>∃gP gS gUs,t3= .pointer (some ⟨gP,0,none⟩)∧t4= .pointer (some ⟨gS,0,none⟩)∧t5= .pointer (some ⟨gUs,0,none⟩)∧qF w wx [(gUs,u.cells,42),(gS,[Iv s0,Iv s1,Iv s2,Iv s3,Iv s4,Iv s5,Iv s6,Iv s7],30),(gP,[.string pa,.string pb,.slice S l.length cap,Iv act],24)])
  case first=>
   go_wp2_with(first|(refine qe ?_;clear hM;intro g W hM))
   all_goals
    go_meet;exact⟨_,_,_,rfl,rfl,rfl,hM⟩
  case rest=>
  clear hM;obtain⟨gP,gS,gUs,rfl,rfl,rfl,hM⟩:=hcut;go_wp2_with(first|(refine qe ?_;clear hM;intro g W hM)|(refine qt (RN _) ?_;clear hM;intro W1 hM)|(go_at_call 5;(with_reducible refine(BA _ (hide (uw hM hp.out)) (hide (qP hM hu.out))).mono ?_);rintro e W1 ⟨V,len,B,rfl,hO,hlen,hB⟩;replace hM:=ED hM hB;clear hB;simp only[List.cons_append,List.nil_append]at hM;obtain⟨SV,capV,hVV⟩:=VB hO.1;subst hVV;have HO:=hide hO;clear hO;have HLEN:=hide hlen;clear hlen))
  all_goals
   go_ret;exact⟨rfl,hM.below⟩
 subst he;obtain⟨d,hd,hBu⟩:=Eg (l:=l) (fx:=s0) (fy:=s1) (R:=ZF s4 s5) (pa:=pa) (pb:=pb) (act:=act) (c:=s2) (spd:=s4) (bank:=s5) (oalt:=s6) (gr:=s7) (by rw[hQ]);rw[hQ]at hd;dsimp only at hd;subst hd;obtain⟨els,hels⟩:∃els,d.els=els:=⟨_,rfl⟩;have HEL:=hide (show∀x∈els,Lp (aX l act) x by rw[←hels];exact rZ hBu);have HVA:=hide (show∀x∈els,qw x.ax x.ay=true by rw[←hels];exact fun x hx=>(hBu.val.els x hx).a);have HL5:els.length≤500:=by rw[←hels];have:=hBu.len;omega
 rw[hels]at BA;clear hels hBu hQ HQ;have hM:=qo w;go_enter Tryz.func3,Tryz.ntmps3;go_upto_region 0 with fail;go_cut [3,4,5] (fun t3 t4 t5 wx=>∃gP gS gUs,t3= .pointer (some ⟨gP,0,none⟩)∧t4= .pointer (some ⟨gS,0,none⟩)∧t5= .pointer (some ⟨gUs,0,none⟩)∧qF w wx [(gUs,u.cells,42),(gS,[Iv s0,Iv s1,Iv s2,Iv s3,Iv s4,Iv s5,Iv s6,Iv s7],30),(gP,[.string pa,.string pb,.slice S l.length cap,Iv act],24)])
 case first=>
  go_wp2_with(first|(refine qe ?_;clear hM;intro g W hM))
  all_goals
   go_meet;exact⟨_,_,_,rfl,rfl,rfl,hM⟩
 case rest=>
 clear hM;obtain⟨gP,gS,gUs,rfl,rfl,rfl,hM⟩:=hcut;go_upto_region 4 with(first|(refine qe ?_;clear hM;intro g W hM)|(refine qt (RN _) ?_;clear hM;intro W1 hM)|(go_at_call 5;(with_reducible refine(BA _ (hide (uw hM hp.out)) (hide (qP hM hu.out))).mono ?_);rintro e W1 ⟨V,len,B,rfl,hO,hlen,hB⟩;replace hM:=ED hM hB;clear hB;simp only[List.cons_append,List.nil_append]at hM;obtain⟨SV,capV,hVV⟩:=VB hO.1;subst hVV;have HO:=hide hO;clear hO;have HLEN:=hide hlen;clear hlen));obtain⟨gq,rfl⟩:=uC hM;refine qj ?_;by_cases hz:els.length=0
 ·have z1:((els.length:Int)==0)=true:=by simp[hz]
  have z2:(els.length==0)=true:=by simp[hz]
  clear hz;go_wp2_with(first|(refine qe ?_;clear hM;intro g W hM))
  all_goals
   go_ret;exact⟨by first|rfl|simp,hM.below⟩
 have z1:((els.length:Int)==0)=false:=beq_eq_false_iff_ne.2 qg;have z2:(els.length==0)=false:=by simp[hz]
 obtain⟨gB,capB,cur,eq1,rfl,hcur⟩:=Jr HO.out qg;simp only[Value.slice.injEq,true_and]at eq1;obtain⟨rfl,rfl⟩:=eq1;have HCU:=hide hcur;have hpos:0<els.length:=qg;have hpos2:(0:Int)<(els.length:Int):=qg;obtain⟨e0,he0⟩:∃x,els[0]? =some x:=⟨_,List.getElem?_eq_getElem hpos⟩;have HC0:=hide (show(cur.drop 1).take 2=[Iv e0.ax,Iv e0.ay]from qqw (o:=0) (s:=13) (VP hcur rfl he0) 1 2 qG);have HA0:=hide (JX (HVA.out e0 (List.mem_of_getElem? he0)));obtain⟨n0,hn0⟩:∃n0:Nd,n0=⟨e0.ax,e0.ay,0,-200000,6000000,0,1000⟩:=⟨_,rfl⟩;have HN0:=hide hn0;have HNK:=hide (show n0.ok by rw[hn0];have:=HA0.out;exact⟨⟨by dsimp only;omega,by dsimp only;omega⟩,⟨by dsimp only;omega,by dsimp only;omega⟩,(by unfold qz;dsimp only;omega),(by unfold qz;dsimp only;omega),(by unfold qz;dsimp only;omega),(by unfold qz;dsimp only;omega),(by unfold qz;dsimp only;omega)⟩);clear hcur hz he0 hn0;go_upto_region 9 with(first|((with_reducible refine lX ?_);refine GY hM rfl rfl rfl HC0.out (Zg rfl) (bQ rfl) ?_)|((with_reducible refine uJ ?_);refine' yZ hM rfl rfl ?_ Tryz.underlying31 qq7 ?_ qG qG ?_;rotate_left 1;(·constructor);(·rfl);(clear hM;intro g W hM))|((with_reducible refine sX ?_);refine qz0 hM rfl rfl rfl rfl ?_;clear hM;intro W hM)|(refine qe ?_;clear hM;intro g W hM));obtain⟨gNd,rfl⟩:=uC hM;refine qj ?_;have hM1:qF w W ((gq,[.slice (some ⟨gB,0,none⟩) els.length capV,Iv len],46)::(gUs,{u with S:=some ⟨gNd,0,none⟩,n:=1,c:=1}.cells,42)::(gS,[Iv s0,Iv s1,Iv s2,Iv s3,Iv s4,Iv s5,Iv s6,Iv s7],30)::(gP,[.string pa,.string pb,.slice S l.length cap,Iv act],24)::(gB,cur,53)::([]++[(gNd,n0.cells,57)])):=by rw[HN0.out];exact qW hM (qqz _ [_,_,_,_,_])
 clear hM;have hM:=hM1;clear hM1
 go_upto_block 0 with(first|(refine qe ?_;clear hM;intro g W hM))
 go_cut [10] (fun s10 wx=>∃(j:Nat) (gs:List Gn) (vDi:Value) (gNd cNd nNd:Nat) (cn:List Value) (bDi:List qZ),j≤els.length∧s10=vDi∧Hid (RK (aX l act) els j gs)∧Hid (NrQ n0 gNd cNd nNd cn gs)∧Hid (DrQ vDi gs bDi)∧qF w wx ((gq,[.slice (some ⟨gB,0,none⟩) els.length capV,Iv len],46)::(gUs,{u with S:=some ⟨gNd,0,none⟩,n:=nNd,c:=cNd}.cells,42)::(gS,[Iv s0,Iv s1,Iv s2,Iv s3,Iv s4,Iv s5,Iv s6,Iv s7],30)::(gP,[.string pa,.string pb,.slice S l.length cap,Iv act],24)::(gB,cur,53)::(bDi++[(gNd,cn,57)])))
 case first=>
  go_wp2_with fail;go_loopw [10,11,58] (fun s10 s11 s58 wx=>∃(j:Nat) (v:Int) (gs:List Gn) (vDi:Value) (gNd cNd nNd:Nat) (cn:List Value) (bDi:List qZ),j≤els.length∧s10=vDi∧s11=Iv v∧s58=Iv j∧Hid (gs=[]→v= -1)∧Hid (RK (aX l act) els j gs)∧Hid (NrQ n0 gNd cNd nNd cn gs)∧Hid (DrQ vDi gs bDi)∧qF w wx ((gq,[.slice (some ⟨gB,0,none⟩) els.length capV,Iv len],46)::(gUs,{u with S:=some ⟨gNd,0,none⟩,n:=nNd,c:=cNd}.cells,42)::(gS,[Iv s0,Iv s1,Iv s2,Iv s3,Iv s4,Iv s5,Iv s6,Iv s7],30)::(gP,[.string pa,.string pb,.slice S l.length cap,Iv act],24)::(gB,cur,53)::(bDi++[(gNd,cn,57)]))) (fun _ _ i _=>els.length-(intOf i).toNat)
  case atStart=>exact⟨0,-1,[],_,gNd,1,1,n0.cells,[],Nat.zero_le _,rfl,rfl,rfl,hide (fun _=>rfl),hide (Rq _ _),hide qqo,hide qqq,hM⟩
  case round=>
   clear hM;obtain⟨j,v,gs,vDi,gNd,cNd,nNd,cn,bDi,hj,rfl,rfl,rfl,HV,HR,HN,HD,hM⟩:=hrel;by_cases hlt:j<els.length;rotate_left 1
   ·go_wp2_with(first|(refine qe ?_;clear hM;intro g W hM))
    all_goals
     go_meet;exact⟨j,gs,_,gNd,cNd,nNd,cn,bDi,hj,rfl,HR,HN,HD,hM⟩
   obtain⟨x,hx⟩:∃x,els[j]? =some x:=⟨_,List.getElem?_eq_getElem hlt⟩;have HE:=hide (HEL.out x (List.mem_of_getElem? hx));obtain⟨jxn,ex,hxn,-,hlx,hgx⟩:=HE.out.2.2;have hjxn:jxn<l.length:=(List.getElem?_eq_some_iff.1 hlx).1;have hjxi:(jxn:Int)<(l.length:Int):=qg;obtain⟨b,o,rfl,hat⟩:=hp.out jxn ex hlx;have HXI:=hide (hxs.out jxn ex hlx);have HAT:=hide hat;have HXN:=hide hxn;have HC:=hide (VP HCU.out rfl hx);have HX:=hide hx;have hgl:=HR.out.len;clear hat hlx hgx hxn hx;go_upto_region 12 with(first|((with_reducible refine lX ?_);refine FE hM rfl rfl rfl (by((repeat constructor)<;>fail)) HC.out ?_)|(refine qe ?_;clear hM;intro g W hM));obtain⟨gx,rfl⟩:=uC hM;rw[HXN.out]at hM;refine qj ?_;rcases hg:x.g with _|_;rotate_left 1
   ·rw[hg]at hM;clear hg;go_wp2_with(first|(refine qe ?_;clear hM;intro g W hM))
    all_goals
     go_meet;exact⟨j,gs,_,gNd,cNd,nNd,cn,bDi,hj,rfl,HR,HN,HD,qC hM⟩
   rw[hg]at hM;clear hg;go_upto_if 67 with(first|(refine qe ?_;clear hM;intro g W hM));refine qj ?_;go_cut [10,11] (fun s10 s11 wx=>∃(v1:Int) (gs1:List Gn) (g0:Gn) (k k1 gNd cNd nNd gDi cD:Nat) (cn cd:List Value),s10= .slice (some ⟨gDi,0,none⟩) k1 cD∧s11=Iv v1∧(gs1.length=k∧k1=k+1∧nNd=k+2∧k≤1000)∧Hid (RK (aX l act) els (j+1) (gs1++[gup g0 x]))∧Hid (NrQ n0 gNd cNd nNd cn (gs1++[g0]))∧Hid (DrQ (.slice (some ⟨gDi,0,none⟩) k1 cD) (gs1++[g0]) [(gDi,cd,2)])∧qF w wx ((gx,[.bool x.c,Iv x.ax,Iv x.ay,Iv x.bx,Iv x.b_y,Iv x.cx,Iv x.cy,Iv x.r,Iv x.f,Iv x.s,Iv x.L,Iv jxn,.bool false],53)::(gq,[.slice (some ⟨gB,0,none⟩) els.length capV,Iv len],46)::(gUs,{u with S:=some ⟨gNd,0,none⟩,n:=nNd,c:=cNd}.cells,42)::(gS,[Iv s0,Iv s1,Iv s2,Iv s3,Iv s4,Iv s5,Iv s6,Iv s7],30)::(gP,[.string pa,.string pb,.slice (some ⟨b,o,none⟩) l.length cap,Iv act],24)::(gB,cur,53)::[(gDi,cd,2),(gNd,cn,57)]))
   case first=>
    by_cases hxv:(jxn:Int)=v
    ·have e1:((jxn:Int) !=v)=false:=by simp[hxv]
     rcases List.eq_nil_or_concat gs with h|⟨gs1,g0,h⟩
     ·have:=HV.out h;omega
     rw[List.concat_eq_append]at h;subst h;have hl1:gs1.length+1≤j:=by simpa using hgl
     obtain⟨gDi,cD,cd,rfl,rfl,-,-⟩:=qqr HD.out jL;have hnn:=HN.out.1;rw[List.length_append,List.length_singleton]at hnn;subst hnn;simp only[List.length_append,List.length_singleton]at HD;simp only[List.cons_append,List.nil_append]at hM;clear hxv;go_wp2_with(first|(refine qe ?_;clear hM;intro g W hM))
     all_goals
      go_meet;exact⟨v,gs1,g0,gs1.length,gs1.length+1,gNd,cNd,_,gDi,cD,cn,cd,by simp,rfl,⟨rfl,rfl,rfl,qg⟩,hide (MP HR.out HX.out HE.out),HN,HD,hM⟩
    ·have e1:((jxn:Int) !=v)=true:=by simpa using hxv
     clear hxv;go_upto_region 15 with(first|((with_reducible refine lX ?_);refine yL hM rfl (by first|exact rfl|(go_simp;done)) rfl (Zg rfl) (Bp HAT.out) (bQ rfl) ?_)|(refine qe ?_;clear hM;intro g W hM));obtain⟨gl,rfl⟩:=uC hM;refine qj ?_;have HOW:=qqn HN.out;go_upto_region 16 with(first|((with_reducible refine uJ ?_);refine' yZ hM rfl rfl ?_ Tryz.underlying31 qq7 ?_ qG qG ?_;rotate_left 1;(·constructor);(·rfl);(clear hM;intro g W hM))|((with_reducible refine kD ?_);refine kH Nd.cells ⟨0,0,0,ex.lo,ex.hi,0,1000⟩ (R:=(gl,[.int .u8 ex.ty,.string ex.fx,.string ex.ct,.int .u8 ex.tn,.bool ex.ov,Iv ex.crs,Iv ex.dst,Iv ex.rad,Iv ex.tht,Iv ex.lo,Iv ex.hi,Iv ex.spd,Iv ex.rnp],60)::(gx,[.bool x.c,Iv x.ax,Iv x.ay,Iv x.bx,Iv x.b_y,Iv x.cx,Iv x.cy,Iv x.r,Iv x.f,Iv x.s,Iv x.L,Iv jxn,.bool false],53)::(gq,[.slice (some ⟨gB,0,none⟩) els.length capV,Iv len],46)::(gUs,{u with S:=some ⟨gNd,0,none⟩,n:=nNd,c:=cNd}.cells,42)::(gS,[Iv s0,Iv s1,Iv s2,Iv s3,Iv s4,Iv s5,Iv s6,Iv s7],30)::(gP,[.string pa,.string pb,.slice (some ⟨b,o,none⟩) l.length cap,Iv act],24)::(gB,cur,53)::bDi) hM rfl rfl rfl rfl HOW Tryz.underlying31 qq7 rfl rfl qG qG (by rw[qqb];omega) ?_;clear hM;intro V B' W HVN hM;obtain⟨gN2,cN2,cn2,rfl,rfl,hNR⟩:=qqh (g:=⟨0,0,0,jxn,ex.lo,ex.hi⟩) HVN.out;have HN2:=hide hNR;clear hNR HVN)|((with_reducible refine sX ?_);refine qz0 hM rfl rfl rfl rfl ?_;clear hM;intro W hM)|(refine qe ?_;clear hM;intro g W hM));refine qj ?_;replace hM:qF w W ((gl,[.int .u8 ex.ty,.string ex.fx,.string ex.ct,.int .u8 ex.tn,.bool ex.ov,Iv ex.crs,Iv ex.dst,Iv ex.rad,Iv ex.tht,Iv ex.lo,Iv ex.hi,Iv ex.spd,Iv ex.rnp],60)::(gx,[.bool x.c,Iv x.ax,Iv x.ay,Iv x.bx,Iv x.b_y,Iv x.cx,Iv x.cy,Iv x.r,Iv x.f,Iv x.s,Iv x.L,Iv jxn,.bool false],53)::(gq,[.slice (some ⟨gB,0,none⟩) els.length capV,Iv len],46)::(gUs,{u with S:=some ⟨gN2,0,none⟩,n:=gs.length+2,c:=cN2}.cells,42)::(gS,[Iv s0,Iv s1,Iv s2,Iv s3,Iv s4,Iv s5,Iv s6,Iv s7],30)::(gP,[.string pa,.string pb,.slice (some ⟨b,o,none⟩) l.length cap,Iv act],24)::(gB,cur,53)::((gN2,cn2,57)::bDi)):=qW hM ((List.perm_append_comm (l₁:=bDi) (l₂:=[_])).append_left [_,_,_,_,_,_,_]);have HOD:=HD;unfold DrQ at HOD;go_upto_region 17 with(first|((with_reducible refine uJ ?_);refine' yZ hM rfl rfl ?_ Tryz.underlying32 qq9 ?_ qG qG ?_;rotate_left 1;(·constructor);(·rfl);(clear hM;intro g W hM))|((with_reducible refine kD ?_);refine kH inc 0 (R:=(gl,[.int .u8 ex.ty,.string ex.fx,.string ex.ct,.int .u8 ex.tn,.bool ex.ov,Iv ex.crs,Iv ex.dst,Iv ex.rad,Iv ex.tht,Iv ex.lo,Iv ex.hi,Iv ex.spd,Iv ex.rnp],60)::(gx,[.bool x.c,Iv x.ax,Iv x.ay,Iv x.bx,Iv x.b_y,Iv x.cx,Iv x.cy,Iv x.r,Iv x.f,Iv x.s,Iv x.L,Iv jxn,.bool false],53)::(gq,[.slice (some ⟨gB,0,none⟩) els.length capV,Iv len],46)::(gUs,{u with S:=some ⟨gN2,0,none⟩,n:=gs.length+2,c:=cN2}.cells,42)::(gS,[Iv s0,Iv s1,Iv s2,Iv s3,Iv s4,Iv s5,Iv s6,Iv s7],30)::(gP,[.string pa,.string pb,.slice (some ⟨b,o,none⟩) l.length cap,Iv act],24)::(gB,cur,53)::[(gN2,cn2,57)]) hM rfl rfl rfl rfl HOD Tryz.underlying32 qq9 rfl rfl qG qG (by rw[List.length_map];omega) ?_;clear hM;intro V B' W HVD hM;obtain⟨gDi,cD,cd,rfl,rfl,-,-⟩:=qqr (qqj (g:=⟨0,0,0,jxn,ex.lo,ex.hi⟩) HVD.out) jL;have HD2:=hide (qqj (g:=⟨0,0,0,jxn,ex.lo,ex.hi⟩) HVD.out);simp only[List.length_append,List.length_singleton]at HD2;clear HVD)|(refine qe ?_;clear hM;intro g W hM));refine qj ?_;go_wp2_with(first|(refine qe ?_;clear hM;intro g W hM))
     all_goals
      go_meet;exact⟨(jxn:Int),gs,⟨0,0,0,jxn,ex.lo,ex.hi⟩,gs.length,gs.length+1,gN2,cN2,_,gDi,cD,cn2,cd,by simp,rfl,⟨rfl,rfl,rfl,qg⟩,hide (qqg HR.out HX.out HE.out HXN.out HXI.out.lo HXI.out.hi),HN2,HD2,qC (qW hM ((List.Perm.swap _ _ []).append_left [_,_,_,_,_,_,_]))⟩
   case rest=>
   clear hM HV HR HN HD;obtain⟨v1,gs1,g0,k,k1,gNd,cNd,nNd,gDi,cD,cn,cd,rfl,rfl,⟨hk,hk1,hkn,hk5⟩,HR,HN,HD,hM⟩:=hcut;have iw1:IntKind.i64.wrap ((nNd:Int)-1)=(k1:Int):=by rw[show(nNd:Int)-1=k1 by omega];exact IntWalk.i64_in _ qg
   have iw2:IntKind.i64.wrap ((k1:Int)-1)=(k:Int):=by rw[show(k1:Int)-1=k by omega];exact IntWalk.i64_in _ qg
   have hb:=qqt HR.out;have iw3:=IntWalk.i64_in (g0.d+x.L) qg;have b1:k1<nNd:=qg;have b2:(k1:Int)<(nNd:Int):=qg;have b3:k<k1:=qg;have b4:(k:Int)<(k1:Int):=qg;have hg0:(gs1++[g0])[k]? =some g0:=by rw[←hk,List.getElem?_append_right (Nat.le_refl _),Nat.sub_self];rfl
   have HD0:=hide (show cn[k1*7+2]? =some (Iv g0.d) by rw[hk1];exact qqi HN.out hg0 rfl);have hr:=(qqd HN.out).1;have HB1:k1*7+2≤cn.length:=qg;have hq:=qqm HN.out (k:=k1) qg x.bx x.b_y (g0.d+x.L);obtain⟨cn1,hc1⟩:∃c,jg cn (k1*7) [Iv x.bx,Iv x.b_y]=c:=⟨_,rfl⟩;have HB2:k1*7+2<cn1.length:=by rw[←hc1,gM (by simpa using HB1)];omega
   rw[hc1]at hq;have HC1:=hide hc1;obtain⟨cn2,hc2⟩:∃c,jg cn1 (k1*7+2) [Iv (g0.d+x.L)]=c:=⟨_,rfl⟩;rw[hc2]at hq;have HC2:=hide hc2;have HN2:=hide hq;have hg2:(gs1++[gup g0 x])[k]? =some (gup g0 x):=by rw[←hk,List.getElem?_append_right (Nat.le_refl _),Nat.sub_self];rfl
   have HD2:=hide (show cn2[k1*7+2]? =some (Iv (g0.d+x.L)) by rw[hk1];exact qqi HN2.out hg2 rfl);have HDP:=hide (qqs HD.out (k:=k) hk.symm qg (gup g0 x))
   have HB3:k<cd.length:=by
    obtain⟨gDi',cD',cd',q1,q2,q3,-⟩:=qqr HD.out jL;injection q2 with q2;injection q2 with _ q2;injection q2 with q2;subst q2;simp at q3;omega
   clear hc1 hc2 hq hg0 hg2 hr hk1 hkn hb;go_upto_region 19 with(first|(refine qe ?_;clear hM;intro g W hM));refine qj ?_;refine qA [(gx,[.bool x.c,Iv x.ax,Iv x.ay,Iv x.bx,Iv x.b_y,Iv x.cx,Iv x.cy,Iv x.r,Iv x.f,Iv x.s,Iv x.L,Iv jxn,.bool false],53)] hM qM ?_;(clear hM;intro W hM);refine rD 0 ?_;refine rD 1 ?_;refine rD 2 ?_;refine rD 3 ?_;refine rD 4 ?_;refine rD 5 ?_;refine rD 6 ?_;refine rD 8 ?_;refine rD 9 ?_;refine dC 7 (fun K' hK'=> ?_);refine oL hM ?_ (hv:=HD0.out);refine rK hK' hM ?_;clear hK' K';refine dP 10 (v:=Iv (g0.d+x.L)) hM ?_ (hv:=by(intro W0;go_simp<;>first|assumption|rfl|exact iw3));refine qj ?_;refine rD 11 ?_;refine rD 12 ?_;refine dC 13 (fun K' hK'=> ?_);refine oSP hM HB1 ?_;clear hM;intro W hM
   try rw[HC1.out]at hM
   refine rK hK' hM ?_;clear hK' K';refine rD 14 ?_;refine rD 15 ?_;refine dC 16 (fun K' hK'=> ?_);refine Mz hM HB2 ?_;clear hM;intro W hM
   try rw[HC2.out]at hM
   refine rK hK' hM ?_;clear hK' K';refine qp qM ?_;go_wp2_with(first|((with_reducible refine lX ?_);refine yR hM rfl rfl rfl HD2.out (ur rfl) ?_)|((with_reducible refine sX ?_);refine Yv hM rfl rfl rfl rfl HB3 ?_;clear hM;intro W hM)|(refine qe ?_;clear hM;intro g W hM))
   all_goals
    go_roundw
    case rel=>exact⟨j+1,v1,gs1++[gup g0 x],_,gNd,cNd,nNd,cn2,[(gDi,jg cd k [Iv (g0.d+x.L)],2)],hlt,rfl,rfl,by go_num,hide (fun h=>by simp at h),HR,HN2,HDP,qC hM⟩
    case measure=>simp[intOf];omega
 case rest=>
 clear hM;obtain⟨j,gs,vDi,gNd,cNd,nNd,cn,bDi,hj,rfl,HR,HN,HD,hM⟩:=hcut;have hj5:j≤500:=qg;have hrow:=qqd HN.out;obtain rfl:=HN.out.1;have HRW:=hide hrow.2.1;have HSU:=fun(W:World) (L:List qZ) (hM:qF w W L) (hl:Lk L gNd cn 57)=>Pg (c:=cNd) (jO hM HS.out) (qqf hM HN.out HNK.out HR.out hj5 hl) (Nat.le_trans hrow.2.2.2 hrow.2.2.1)
 replace hM:=qW hM (qz2 [_,_,_,_,_] bDi _);simp only[List.cons_append,List.nil_append]at hM;go_upto_region 23 with(first|(refine qe ?_;clear hM;intro g W hM)|(go_at_call 6;(with_reducible refine(Ee _ (nF (nds n0 gs)) _ (hide (HSU _ _ hM Lk.head))).mono ?_);(rintro e W1 (⟨qx,qy,qb,qErr,rfl,⟨iq,hqe⟩,hB⟩|⟨gv,cv,cs,fa,rfl,⟨hv1,hv2⟩,⟨hSO,hIW,hPR⟩,hB⟩))<;>first|(replace hM:=qD hM hB;clear hB)|(replace hM:=ED hM hB;clear hB;simp only[List.cons_append,List.nil_append]at hM)))
 ·go_wp2_with(first|(refine qe ?_;clear hM;intro g W hM))
  all_goals
   go_ret;exact⟨rfl,hM.below⟩
 obtain⟨gf,rfl⟩:=uC hM;refine qj ?_;obtain⟨ps,hpl,hpc,hpo⟩:=hPR;have h2n:=hSO.n;dsimp only at hpl hpc h2n;obtain⟨gDi,cD,cd,rfl,rfl,-,hcd⟩:=qqr HD.out qg;have HCD:=hide hcd;have HPS:=hide (show cs.take (ps.length*13)=ps.flatMap Pa.cells by rw[hpl];exact hpc);have rJx:=Wu hSO (N:=gs.length) rfl hpl hpo;have RD:=Bw hSO (N:=gs.length) rfl;have HSO:=hide hSO;have HIW:=hide hIW;have HPO:=hide hpo;clear hpc hcd hSO hIW hpo;simp only[List.cons_append,List.nil_append]at hM;go_wp2_with(first|(refine qe ?_;clear hM;intro g W hM));go_loopw [131] (fun s131 wx=>∃i:Nat,i≤gs.length+1∧s131=Iv i∧qF w wx ((gf,[.slice (some ⟨gv,0,none⟩) (gs.length+1) cv,Iv 0,Iv 0,.bool false],69)::(gNd,cn,57)::(gq,[.slice (some ⟨gB,0,none⟩) els.length capV,Iv len],46)::(gUs,{u with S:=some ⟨gNd,0,none⟩,n:=(gs.length+1),c:=cNd}.cells,42)::(gS,[Iv s0,Iv s1,Iv s2,Iv s3,Iv s4,Iv s5,Iv s6,Iv s7],30)::(gP,[.string pa,.string pb,.slice S l.length cap,Iv act],24)::(gB,cur,53)::[(gDi,cd,2),(gv,cs,74)])) (fun s _=>gs.length+1-(intOf s).toNat)
 case atStart=>exact⟨0,Nat.zero_le _,rfl,hM⟩
 case round=>
  clear hM;obtain⟨i,hi,rfl,hM⟩:=hrel;by_cases hlt:i<gs.length+1;rotate_left 1
  ·go_wp2_with(first|(refine qe ?_;clear hM;intro g W hM))
   all_goals
    go_ret;exact⟨by first|rfl|simp,hM.below⟩
  obtain⟨p,hp0,hti,-⟩:=Yy (ps:=ps) (k:=i) qg;have HPC:=hide (qq6 (c:=Pa.cells) (s:=13) (fun _=>rfl) HPS.out hp0);have hlti:(i:Int)<((gs.length+1:Nat):Int):=qg;have HPI:=hide hp0;clear hp0;go_upto_region 28 with(first|((with_reducible refine lX ?_);refine qz5 hM rfl rfl rfl (by((repeat constructor)<;>fail)) HPC.out ?_)|(refine qe ?_;clear hM;intro g W hM));obtain⟨gp,rfl⟩:=uC hM;refine qj ?_;by_cases h0:i=0
  ·have h1:((i:Int)==0)=true:=by simp[h0]
   clear h0;go_wp2_with(first|(refine qe ?_;clear hM;intro g W hM))
   all_goals
    go_roundw
    case rel=>exact⟨i+1,hlt,by go_num,qC hM⟩
    case measure=>simp[intOf];omega
  have h1:((i:Int)==0)=false:=beq_eq_false_iff_ne.2 qg;obtain⟨k,hik⟩:∃k,i=k+1:=⟨i-1,qg⟩;obtain⟨g0,hg0⟩:∃g,gs[k]? =some g:=⟨_,List.getElem?_eq_getElem qg⟩;have hsum:kw (dD (nF (nds n0 gs))) i=kw (gD gs) (k+1):=by rw[hik];exact qqp qg
  have RC:=fun W h1 h2=>MK (some ⟨gv,0,none⟩) (some ⟨gDi,0,none⟩) ps gs.length cv cD i 0 0 false (dD (nF (nds n0 gs))) W hpl qg h1 h2 (hide rJx.1) (hide rJx.2.1) (hide rJx.2.2) (hide RD) qg
  obtain⟨sd,hsd⟩:∃sd,kw (dD (nF (nds n0 gs))) i=sd:=⟨_,rfl⟩;rw[hti,hsd]at RC;rw[hsd]at hsum;obtain⟨E,hE⟩:∃E,YW els len sd=E:=⟨_,rfl⟩;have hnd:(YW els len sd).2.2.2=0→Um (YW els len sd).1 (YW els len sd).2.1 g0.x g0.y 16:=by rw[hsum];exact fun he=>pW HR.out.ri hg0 he
  rw[hE]at hnd;obtain⟨e1,e2,e3,e4⟩:=E;dsimp only at hnd;have HND:=hide hnd;have PB:=fun W h=>Me (some ⟨gB,0,none⟩) els capV len sd W qg h (e1,e2,e3,e4) hE.symm
  have hal:=Rn (u:={u with S:=some ⟨gNd,0,none⟩,n:=gs.length+1,c:=cNd}) (k:=k) (y:=p) hpl HIW.out HPO.out (by rw[←hik];exact HPI.out);rw[qql hg0]at hal;have HLO:=hide (show cn[i*7+3]? =some (Iv g0.al) by rw[hik];exact qqi HN.out hg0 rfl);have HHI:=hide (show cn[i*7+4]? =some (Iv g0.ah) by rw[hik];exact qqi HN.out hg0 rfl);have HPT:=hide (show(cn.drop (i*7)).take (1+1)=[Iv g0.x,Iv g0.y] by rw[hik];exact qqu HN.out hg0);have HU0:=hide (show(Su.cells {u with S:=some ⟨gNd,0,none⟩,n:=gs.length+1,c:=cNd})[0]? =some (.slice (some ⟨gNd,0,none⟩) (gs.length+1) cNd)from rfl);have HP0:=hide (show p.cells[0]? =some (Iv p.al)from rfl);obtain⟨hal1,hal2⟩:g0.al≤p.al∧p.al≤g0.ah:=hal;have k1:¬p.al<g0.al:=qg;have k2:=decide_eq_false k1;have k3:¬g0.ah<p.al:=qg;have k4:=decide_eq_false k3;clear hnd hE hsum hsd hti h0 hik;go_upto_region 30 with(first|(refine qe ?_;clear hM;intro g W hM)|(go_at_call 7;have q1:=RM (g:=gv) (cs:=cs) (t:=74) hM (by((repeat constructor)<;>fail)) HPS.out;have q2:=qqk (n0:=n0) (gD:=gDi) (cd:=cd) (t:=2) hM (by((repeat constructor)<;>fail)) HCD.out HR.out hj5;refine cb hM (RC _ (hide q1) (hide q2)) ?_;clear q1 q2 hM;intro W1 hM));refine qj ?_;go_upto_region 33 with(first|(refine qe ?_;clear hM;intro g W hM)|(go_at_call 8;have q1:=Sy hM HO.out (by intro b hb;rcases List.mem_singleton.1 hb with rfl;repeat(first|exact .head _|refine .tail _ ?_));refine cb hM (PB _ (hide q1)) ?_;clear q1 hM;intro W1 hM));obtain⟨ga,rfl⟩:=uC hM;refine qj ?_;go_cut [191] (fun s wx=>s= .bool false∧qF w wx ((ga,[Iv e1,Iv e2],26)::(gp,p.cells,74)::(gf,[.slice (some ⟨gv,0,none⟩) (gs.length+1) cv,Iv 0,Iv 0,.bool false],69)::(gNd,cn,57)::(gq,[.slice (some ⟨gB,0,none⟩) els.length capV,Iv len],46)::(gUs,{u with S:=some ⟨gNd,0,none⟩,n:=(gs.length+1),c:=cNd}.cells,42)::(gS,[Iv s0,Iv s1,Iv s2,Iv s3,Iv s4,Iv s5,Iv s6,Iv s7],30)::(gP,[.string pa,.string pb,.slice S l.length cap,Iv act],24)::(gB,cur,53)::[(gDi,cd,2),(gv,cs,74)]))
  case first=>
   by_cases hr:e4=0
   ·have HNP:=hide (HND.out hr);subst hr;refine qA [(ga,[Iv e1,Iv e2],26),(gp,p.cells,74),(gUs,{u with S:=some ⟨gNd,0,none⟩,n:=(gs.length+1),c:=cNd}.cells,42),(gNd,cn,57)] hM qM ?_;(clear hM;intro W hM);refine rD 0 ?_;refine rD 1 ?_;refine rD 2 ?_;refine rE 3 ?_;refine rE 4 ?_
    first|refine eL 5 hM ?_ (hv:=HU0.out)|refine eS 5 hM ?_
    refine qj ?_;refine rE 6 ?_
    first|refine eP 7 (v:= .pointer (some ⟨gNd,i*7,none⟩)) hM ?_ (hv:=by(intro W0;go_simp;first|done|omega|(intro h;exact absurd h qg)))|refine eS 7 hM ?_
    refine qj ?_;refine rE 8 ?_
    first|refine eM 9 hM ?_ (hC:=qz1 HPT.out rfl)|refine eS 9 hM ?_
    refine qj ?_
    first
     |refine LG 10 hM ?_
     |(refine eC 10 (fun K' hK'=> ?_)
       go_wp2_with(first|(go_at_call 9;(with_reducible refine cb hM (EF _ _ _ _ _ _ HNP.out qg) ?_);clear hM;intro W1 hM))
       refine rK hK' hM ?_;clear hK' K')
    refine rE 11 ?_;refine rD 12 ?_;refine rD 13 ?_;refine rE 14 ?_
    first|refine eL 15 hM ?_ (hv:=HP0.out)|refine eS 15 hM ?_
    refine qj ?_;refine rE 16 ?_
    first|refine eL 17 hM ?_ (hv:=HU0.out)|refine eS 17 hM ?_
    refine qj ?_;refine rE 18 ?_
    first|refine eP 19 (v:= .pointer (some ⟨gNd,i*7,none⟩)) hM ?_ (hv:=by(intro W0;go_simp;first|done|omega|(intro h;exact absurd h qg)))|refine eS 19 hM ?_
    refine qj ?_;refine rE 20 ?_;refine rE 21 ?_
    first|refine eL 22 hM ?_ (hv:=HLO.out)|refine eS 22 hM ?_
    refine qj ?_
    first|refine eP 23 (v:= .bool false) hM ?_ (hv:=by(intro W0;go_simp;first|done|omega))|refine eS 23 hM ?_
    refine qj ?_;refine rD 24 ?_;refine rD 25 ?_;refine rE 26 ?_
    first|refine eL 27 hM ?_ (hv:=HP0.out)|refine eS 27 hM ?_
    refine qj ?_;refine rE 28 ?_
    first|refine eL 29 hM ?_ (hv:=HU0.out)|refine eS 29 hM ?_
    refine qj ?_;refine rE 30 ?_
    first|refine eP 31 (v:= .pointer (some ⟨gNd,i*7,none⟩)) hM ?_ (hv:=by(intro W0;go_simp;first|done|omega|(intro h;exact absurd h qg)))|refine eS 31 hM ?_
    refine qj ?_;refine rE 32 ?_;refine rE 33 ?_
    first|refine eL 34 hM ?_ (hv:=HHI.out)|refine eS 34 hM ?_
    refine qj ?_
    first|refine eP 35 (v:= .bool false) hM ?_ (hv:=by(intro W0;go_simp;first|done|omega))|refine eS 35 hM ?_
    refine qj ?_;refine rD 36 ?_;refine qp qM ?_;go_wp2_with fail
    all_goals
     go_meet;exact⟨rfl,hM⟩
   ·have e5:(e4==0)=false:=by simpa using hr
    clear hr;refine qA [(ga,[Iv e1,Iv e2],26),(gp,p.cells,74),(gUs,{u with S:=some ⟨gNd,0,none⟩,n:=(gs.length+1),c:=cNd}.cells,42),(gNd,cn,57)] hM qM ?_;(clear hM;intro W hM);refine rD 0 ?_;refine dP 1 (v:= .bool false) hM ?_ (hv:=by(intro W0;go_simp<;>first|assumption|exact e5|simp[e5]));refine qj ?_;refine rD 2 ?_;refine rE 3 ?_;refine rE 4 ?_
    first|refine eL 5 hM ?_ (hv:=HU0.out)|refine eS 5 hM ?_
    refine qj ?_;refine rE 6 ?_
    first|refine eP 7 (v:= .pointer (some ⟨gNd,i*7,none⟩)) hM ?_ (hv:=by(intro W0;go_simp;first|done|omega|(intro h;exact absurd h qg)))|refine eS 7 hM ?_
    refine qj ?_;refine rE 8 ?_
    first|refine eM 9 hM ?_ (hC:=qz1 HPT.out rfl)|refine eS 9 hM ?_
    refine qj ?_
    first
     |refine LG 10 hM ?_
     |(refine eC 10 (fun K' hK'=> ?_)
       go_wp2_with(first|(go_at_call 9;(with_reducible refine cb hM (EF _ _ _ _ _ _ HNP.out qg) ?_);clear hM;intro W1 hM))
       refine rK hK' hM ?_;clear hK' K')
    refine rE 11 ?_;refine rD 12 ?_;refine rD 13 ?_;refine rE 14 ?_
    first|refine eL 15 hM ?_ (hv:=HP0.out)|refine eS 15 hM ?_
    refine qj ?_;refine rE 16 ?_
    first|refine eL 17 hM ?_ (hv:=HU0.out)|refine eS 17 hM ?_
    refine qj ?_;refine rE 18 ?_
    first|refine eP 19 (v:= .pointer (some ⟨gNd,i*7,none⟩)) hM ?_ (hv:=by(intro W0;go_simp;first|done|omega|(intro h;exact absurd h qg)))|refine eS 19 hM ?_
    refine qj ?_;refine rE 20 ?_;refine rE 21 ?_
    first|refine eL 22 hM ?_ (hv:=HLO.out)|refine eS 22 hM ?_
    refine qj ?_
    first|refine eP 23 (v:= .bool false) hM ?_ (hv:=by(intro W0;go_simp;first|done|omega))|refine eS 23 hM ?_
    refine qj ?_;refine rD 24 ?_;refine rD 25 ?_;refine rE 26 ?_
    first|refine eL 27 hM ?_ (hv:=HP0.out)|refine eS 27 hM ?_
    refine qj ?_;refine rE 28 ?_
    first|refine eL 29 hM ?_ (hv:=HU0.out)|refine eS 29 hM ?_
    refine qj ?_;refine rE 30 ?_
    first|refine eP 31 (v:= .pointer (some ⟨gNd,i*7,none⟩)) hM ?_ (hv:=by(intro W0;go_simp;first|done|omega|(intro h;exact absurd h qg)))|refine eS 31 hM ?_
    refine qj ?_;refine rE 32 ?_;refine rE 33 ?_
    first|refine eL 34 hM ?_ (hv:=HHI.out)|refine eS 34 hM ?_
    refine qj ?_
    first|refine eP 35 (v:= .bool false) hM ?_ (hv:=by(intro W0;go_simp;first|done|omega))|refine eS 35 hM ?_
    refine qj ?_;refine rD 36 ?_;refine qp qM ?_;go_wp2_with fail
    all_goals
     go_meet;exact⟨rfl,hM⟩
  case rest=>
  clear hM;obtain⟨rfl,hM⟩:=hcut;go_wp2_with(first|(refine qe ?_;clear hM;intro g W hM))
  all_goals
   go_roundw
   case rel=>exact⟨i+1,hlt,by go_num,qC (qC hM)⟩
   case measure=>simp[intOf];omega
end Go.Proofs.YtiegohjobhehcaaGreatDoor
/-
  TopRails: the row's step: the given statement 'TopRailsSaid' out of the walk.
-/
namespace Go.Proofs.YtiegohjobhehcaaGreatDoor.topRails
open Go.ChangeShapes Go.WideShapes Go.ChangeAt Go.RowKit
theorem own:ownKnob Tryz.prog.godebug=none:=qM
theorem laidOut:laidOutB Tryz.prog=true:=mY
theorem typed:(Tryz.f3.params.toList.all fun t=>Tryz.prog.readableRec t&&decide (t<Tryz.prog.types.size))=true:=qM
theorem RO:∀t∈Tryz.f3.params.toList,Tryz.prog.readableRec t=true∧t<Tryz.prog.types.size:=by
 intro t ht;have h:=List.all_eq_true.1 typed t ht;simpa using h
theorem LA:Tryz.prog.cellTypes Tryz.prog.depth 24=some [9,9,22,3]:=qM
theorem LB:Tryz.prog.cellsOf 24=([9,9,22,3]:List TypeId).length:=qM
theorem LD:Tryz.prog.cellTypes Tryz.prog.depth 30=some (List.replicate 8 2):=qM
theorem LF:Tryz.prog.cellsOf 30=(List.replicate 8 2).length:=qM
theorem qza:Tryz.prog.cellTypes Tryz.prog.depth 42=some [31,9,2,2,32,32,33,33,33,32,32,32,32,2,2,2,2,2,2,3,3,32,36,32,2,2,2,2,2,2,2,2,2,2,2,2]:=qM
theorem qzb:Tryz.prog.cellsOf 42=([31,9,2,2,32,32,33,33,33,32,32,32,32,2,2,2,2,2,2,3,3,32,36,32,2,2,2,2,2,2,2,2,2,2,2,2]:List TypeId).length:=qM
theorem lifted(os:Os)(started:os.Started)(H:Type)(enc:TypeId×Value→H):
 ReturnsInHanded {} Tryz.checked os 3 .any (fun w args=>(Rows.topRailsSpec.pre enc Tryz.prog Tryz.f3 Rows.topRailsRow.domain false w args∧laidMetH Tryz.prog da w)∧sizedMet enc Tryz.prog Tryz.f3 (OpenSpec.ofChange Rows.topRailsSpec) false w args) (Rows.topRailsSpec.post enc Tryz.prog Tryz.f3 false true false false):=by
 refine returnsInHanded_of_change_and (C:=Tryz.checked) (X:=fun w _=>laidMetH Tryz.prog da w) (fun _ _ _ hh h=>h.of_heap hh) own started qM Tryz.func3
  (ChangeSpec.witness_shaped (enc:=enc) (C:=Tryz.checked) (os:=os) (X:=fun w _=>laidMetH Tryz.prog da w) false (World.doorLaid Tryz.prog 400 os) #[.agg #[.string ⟨#[]⟩,.string ⟨#[]⟩,.slice none 0 0,Iv 0],.agg #[Iv 0,Iv 0,Iv 0,Iv 0,Iv 0,Iv 0,Iv 0,Iv 0],.agg #[.slice none 0 0,.string ⟨#[]⟩,Iv 0,Iv 0,.slice none 0 0,.slice none 0 0,.slice none 0 0,.slice none 0 0,.slice none 0 0,.slice none 0 0,.slice none 0 0,.slice none 0 0,.slice none 0 0,Iv 0,Iv 0,Iv 0,Iv 0,Iv 0,Iv 0,Iv 0,Iv 0,.slice none 0 0,.slice none 0 0,.slice none 0 0,Iv 0,Iv 0,Iv 0,Iv 0,Iv 0,Iv 0,Iv 0,Iv 0,Iv 0,Iv 0,Iv 0,Iv 0]] 8 rfl (World.shaped_of_RefB qM qM) qM qM qM (iO os _)) ?_
 intro W base args ds gs before hval0 hW hcnd _ hL _;have hval:∀(j:Nat) t v,Tryz.f3.params[j]? =some t→args[j]? =some v→Value.okWide Tryz.prog W .any base t v:=hval0;have hW':=hW;obtain⟨p,q,hA0,hV,rfl,hfz,hnd⟩:=hW;have hlen:=trodAll_length _ _ _ _ hA0;rw[Tryz.params3]at hval hlen;obtain⟨v0,v1,v2,rfl⟩:=qzd hlen.1;obtain⟨d0,d1,d2,rfl⟩:=qzc hlen.2;obtain⟨lp,rfl,ep,hlp⟩:=eK (Or.inl ⟨_,Tryz.underlying24⟩) LA LB (hval 0 24 v0 rfl rfl);obtain⟨pc0,pc1,pc2,pc3,rfl⟩:=Ag (ep.trans (by rfl));have hA':=hA0;rw[Tryz.params3]at hA';obtain⟨_,_,hTp,_⟩:=hA';obtain⟨pA,pB,pS,pl,pcap,pact,hpv,hpA,hpB,hpn,hpact,hpp,hpx⟩:=Dx hTp ⟨pc0,pc1,pc2,pc3,rfl⟩;obtain⟨rfl,rfl,rfl,rfl⟩:pc0= .string pA∧pc1= .string pB∧pc2= .slice pS pl.length pcap∧pc3=Iv pact:=by simpa using hpv
 obtain⟨ls,rfl,es,hls⟩:=Nz (Or.inl ⟨_,Tryz.underlying30⟩) LD LF (fun u hu=>by rw[List.eq_of_mem_replicate hu];exact Tryz.underlying2) (hval 1 30 v1 rfl rfl);obtain⟨s0,s1,s2,s3,s4,s5,s6,s7,rfl⟩:=Ah (es.trans jL);have hs0:qz s0:=hls _ jL;have hs1:qz s1:=hls _ jL;have hs2:qz s2:=hls _ jL;have hs3:qz s3:=hls _ jL;have hs4:qz s4:=hls _ jL;have hs5:qz s5:=hls _ jL;have hs6:qz s6:=hls _ jL;have hs7:qz s7:=hls _ jL;obtain⟨lu,rfl,eu,hlu⟩:=eK (Or.inl ⟨_,Tryz.underlying42⟩) qza qzb (hval 2 42 v2 rfl rfl);have hA'u:=hA0;rw[Tryz.params3]at hA'u;obtain⟨_,_,_,⟨_,_,_,⟨_,_,hTu,_⟩,_⟩,_⟩:=hA'u;obtain⟨u,uf,hvu,hsu⟩:=qz6 hTu ⟨_,rfl,eu.trans (by rfl)⟩;obtain rfl:lu=u.cells:=by injection hvu with h2;exact congrArg Array.toList h2
 refine(qqx pA pB pS pl pcap pact s0 s1 s2 s3 s4 s5 s6 s7 u uf hpA hpB hpact (hide hpp) (hide hpx) hs0 hs1 hs2 hs3 hs4 hs5 hs6 hs7 (hide hsu) hL W).mono fun e W' ⟨he,hb⟩=> ?_
 subst he;exact⟨_,rfl,eI (f:=Tryz.f3) (s:=Rows.topRailsSpec) (tb:=4) laidOut RO rfl qM Tryz.underlying4 hW' ⟨rfl,rfl,rfl⟩ hb⟩
theorem k0:(Rows.topRailsRow.wf (OpenSpec.ofChange Rows.topRailsSpec))=true:=qM
theorem k3:(Tryz.f3.params.all (Tryz.prog.readableRec ·))=true:=qM
theorem k4:(namedTie Tryz.prog Rows.topRailsRow.named Rows.topRailsSpec.vars)=true:=qM
theorem k5:(Rows.topRailsRow.stops==[])=true:=qM
theorem k7:(Rows.topRailsRow.knobs==[])=true:=qM
theorem k9:(Rows.topRailsRow.inPlace==Tryz.prog.inPlace 3)=true:=qM
theorem k10:(Rows.topRailsRow.unfollowed==Tryz.prog.unfollowed 3)=true:=qM
theorem k11:(Rows.topRailsRow.recurses==Tryz.prog.recurses 3)=true:=qM
theorem k12:(Rows.topRailsRow.named==Tryz.prog.varsNamed 3)=true:=qM
theorem k13:(Rows.topRailsRow.maps==(Tryz.f3.params.toList++Rows.topRailsSpec.plain.varTypes Tryz.prog).any (Tryz.prog.mapsRec ·))=true:=qM
theorem k14:(Rows.topRailsRow.ifaces==(Tryz.f3.params.toList++Rows.topRailsSpec.plain.varTypes Tryz.prog).any (Tryz.prog.ifacesRec ·))=true:=qM
theorem k15:(Rows.topRailsRow.mapsOut==Tryz.prog.mapsAmong Tryz.f3.resultTypes.toList)=true:=qM
theorem k16:(Rows.topRailsRow.loops==(Tryz.f3.params.toList++Rows.topRailsSpec.plain.varTypes Tryz.prog).any (Tryz.prog.loopsFrom ·))=true:=qM
theorem k17:(Rows.topRailsRow.wideKeys==(Tryz.f3.params.toList++Rows.topRailsSpec.plain.varTypes Tryz.prog++Tryz.f3.resultTypes.toList).any (Tryz.prog.wideKeysFrom ·))=true:=qM
theorem k18:(Rows.topRailsSpec.vars.all (Tryz.prog.varReadable ·))=true:=qM
theorem k19:(Tryz.f3.resultTypes.all (fun t=>Tryz.prog.readableRec t&&decide (t<Tryz.prog.types.size)))=true:=qM
theorem k20:(Rows.topRailsRow.ifacesOut==Tryz.f3.resultTypes.toList.any (Tryz.prog.ifacesRec ·))=true:=qM
theorem k21:(Rows.topRailsRow.loopsOut==Tryz.f3.resultTypes.toList.any (Tryz.prog.loopsFrom ·))=true:=qM
theorem k22:(Rows.topRailsRow.plainKeys==Tryz.prog.plainKeys)=true:=qM
theorem k23:(Rows.topRailsRow.shortTexts.isNone)=true:=qM
theorem k26:(Rows.topRailsRow.lifted==Tryz.prog.liftsFinal)=true:=by rw[ij];rfl
theorem k27:(Tryz.prog.make==some Rows.topRailsRow.make)=true:=by rw[NH];rfl
theorem k28:(Rows.topRailsRow.kinds==(if Rows.topRailsRow.domain.isEmpty then[]else Tryz.f3.params.toList.map fun t=>match Tryz.prog.underlying t with|some (.int k)=>some k|_=>none))=true:=qM
theorem k29:(Rows.topRailsRow.pinned==Rows.topRailsRow.pinnedBy)=true:=qM
theorem k30:(Rows.topRailsRow.veiled==(Tryz.f3.params.toList++Rows.topRailsSpec.plain.varTypes Tryz.prog++Tryz.f3.resultTypes.toList).any (Tryz.prog.veiledRec ·))=true:=qM
theorem k31:(Rows.topRailsRow.veiledFits Tryz.prog Tryz.f3.params.toList (Tryz.f3.params.toList++Rows.topRailsSpec.plain.varTypes Tryz.prog++Tryz.f3.resultTypes.toList))=true:=qM
theorem closed:joinedFacts Tryz.prog 3 Tryz.f3 Rows.topRailsSpec Rows.topRailsRow=true:=(ul (ul (ul (ul (ul (ul (ul (ul (ul (ul (ul (ul (ul (ul (ul (ul (ul (ul (ul (ul (ul (ul (ul (ul (ul (ul (ul (ul (ul (ul (ul k0 mY) NC) k3) k4) k5) eO) k7) eQ) k9) k10) k11) k12) k13) k14) k15) k16) k17) k18) k19) k20) k21) k22) k23) eR) ig) k26) k27) k28) k29) k30) k31)
theorem byName:Tryz.prog.funcNamed Rows.topRailsRow.func=some 3:=qM
theorem inst:Tryz.f3.isInstance Tryz.prog Rows.topRailsRow.origin Rows.topRailsRow.targs:=of_decide_eq_true qM
theorem over:Rows.topRailsRow.holds Tryz.pinned (OpenSpec.ofChange Rows.topRailsSpec):=
 OpenClaim.holds_of_wide 3 Tryz.f3 rfl rfl rfl rfl rfl rfl rfl ⟨rfl,rfl,rfl,rfl,rfl⟩ rfl rfl rfl rfl rfl byName Tryz.func3 closed
  inst (by unfold Func.isWrapper;rw[if_neg (of_decide_eq_false qM)];exact⟨rfl,rfl⟩)
  (fun os started H enc _=>lifted os started H enc)
theorem proved:Rows.TopRailsCardSaid:=
 Claim7.holds_tied_plain_at .later [] [.data] true Rows.topRailsCard.stood.harness false
  over (fun _ h=>by cases h) qM (fun _ h=>by cases h) topRails_row_tie rfl ⟨rfl,rfl⟩ qM rfl
  (fun f fn hf hfn=>by
    obtain rfl:f=3:=Option.some.inj ((show Tryz.prog.funcNamed "flightdeck/flightdecktop.TopRails" =some 3 by kernel_rfl).symm.trans hf)|>.symm;obtain rfl:fn=Tryz.f3:=(Option.some.inj (Tryz.func3.symm.trans hfn)).symm
    exact⟨qM,fun j t ht=>by
     have hm:t∈Tryz.f3.params.toList:=by simpa using Array.mem_of_getElem? ht
     have hall:(Tryz.f3.params.toList.all fun u=> !Tryz.prog.wantsStandIn u)=true:=qM
     exact(show Tryz.prog.wantsStandIn t=false by simpa using List.all_eq_true.1 hall t hm)⟩)
  qM
end Go.Proofs.YtiegohjobhehcaaGreatDoor.topRails
