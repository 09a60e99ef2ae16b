/-
  plan.Check for all plans.
-/
import Derived.Test.YtiegohjobhehcaaGreatDoorMPlan1
namespace Go.Proofs.YtiegohjobhehcaaGreatDoor
open Go.RowKit
set_option linter.unusedVariables false
set_option linter.unusedSimpArgs false
def xA(w:World)(b off:Nat)(x:En):Prop:=∀(j:Nat) (v:Value),x.cells[j]? =some v→w.cell? ⟨b,off+j,none⟩=some v
def Ys(w:World)(S:Option Addr)(l:List En):Prop:=∀(k:Nat) (x:En),l[k]? =some x→∃b o,S=some ⟨b,o,none⟩∧xA w b (o+k*20) x
theorem rG{w W:World}{L:List qZ}(hM:qF w W L){b off:Nat}{x:En}(h:xA w b off x):xA W b off x:=fun j v hj=>hM.old (h j v hj)
theorem uw{w W:World}{L:List qZ}(hM:qF w W L){S:Option Addr}{l:List En}(h:Ys w S l):Ys W S l:=fun k x hx=>by
 obtain⟨b,o,e,h2⟩:=h k x hx;exact⟨b,o,e,rG hM h2⟩
theorem yI{w W:World}{e:qZ}{L:List qZ}(h:qF w W (e::L)):qF w W L:=
 ⟨h.below,fun g cs t hm=>h.rows g cs t (.tail _ hm),by have:=h.nodup;rw[List.map_cons,List.nodup_cons]at this;exact this.2⟩
theorem Vl{w:World}{b off:Nat}{x:En}(h:xA w b off x):w.cell? ⟨b,off,none⟩=some (.bool x.gap):=h 0 _ rfl
theorem Bp{w:World}{b off:Nat}{x:En}(h:xA w b off x):∀(j:Nat) (v:Value),x.leg[j]? =some v→w.cell? ⟨b,off+1+j,none⟩=some v:=fun j v hj=>by
 have:=h (1+j) v (by
  have hj13:j<13:=by
   have:=(List.getElem?_eq_some_iff.1 hj).1;simpa[En.leg]using this
  have e:x.cells= .bool x.gap::(x.leg++[Iv x.ex,Iv x.ey,Iv x.mx,Iv x.my,.int .u8 x.sec,.string x.via]):=rfl;rw[e,Nat.add_comm 1 j,List.getElem?_cons_succ,List.getElem?_append_left (by simpa[En.leg]using hj13)]
  exact hj)
 rw[Nat.add_assoc];exact this
section
variable{P:Program}{ops:Array Oper}{Q:Exit→Act→World→Prop}{a:Act}{w W:World}{L:List qZ}{rest:List Oper}{o:Oper}
theorem yL{ty:TypeId}{x:Operand}{g off:Nat}(hM:qF w W L)(ho:o.op= .load ty x)(hw:Region.wanted o (yielded ops a.tmps)=true)(hx:a.eval x= .pointer (some ⟨g,off,none⟩))(hg:∀w,(isAgg ty).run P w= .ok true w)
 {C:List Value} (hC:∀(j:Nat) (v:Value),C[j]? =some v→w.cell? ⟨g,off+j,none⟩=some v) (hz:∀w,(sizeOf ty).run P w= .ok C.length w)
 (h:wpList P ops Q rest (a.put o.dst (.agg C.toArray)) W):wpList P ops Q (o::rest) a W:=
 wpList_step fun _ hK=>by
  rw[if_pos hw];unfold Oper.wp execOp;simp only[ho,hx,Instr.loadAt,Instr.sureAddr,Sem.run_bind,Sem.run_pure,Result.andThen_ok,zL ty g off C.length C hg (yA w hz) rfl (fun j v hj=>hM.old (hC j v hj))];exact hK _ _ h
theorem zD{ty:TypeId}{x:Operand}{g off:Nat}(hM:qF w W L)(ho:o.op= .load ty x)(hw:Region.wanted o (yielded ops a.tmps)=true)(hx:a.eval x= .pointer (some ⟨g,off,none⟩))(hg:∀w,(isAgg ty).run P w= .ok false w)
 {v:Value} (hc:w.cell? ⟨g,off,none⟩=some v) (h:wpList P ops Q rest (a.put o.dst v) W):wpList P ops Q (o::rest) a W:=
 wpList_step fun _ hK=>by
  rw[if_pos hw];unfold Oper.wp execOp;simp only[ho,hx,Instr.loadAt,Instr.sureAddr,Sem.run_bind,Sem.run_pure,Result.andThen_ok,loadVar,hg];have hl:(load ⟨g,off,none⟩).run P W= .ok v W:=by simp[hM.old hc]
  simp[hl];exact hK _ _ h
end
theorem bE{pa pb:ByteArray}{l:List En}{act:Int}{k:Nat}{x:En}{la E1 L1:Int}(HF3:Hid (vw pa pb l act=if vY none 0 l≠0 then vY none 0 l else if act≠ -1∧(act<0∨act≥l.length∨JI l act=true)then 2 else 0))
 (HG:Hid (vY none 0 l=vY (kv l k) la (l.drop k))) (hx:Hid (l[k]? =some x)) (hs:vI (kv l k) x (decide (k+1=l.length)) la=(E1,L1)) (hne:E1≠0):vw pa pb l act=E1:=by
 have h:=HG.out.trans (GU hx.out la);rw[hs,if_pos hne]at h;rw[HF3.out,h,if_pos hne]
theorem Yt{l:List En}{k:Nat}{x:En}{la L1:Int}(HG:Hid (vY none 0 l=vY (kv l k) la (l.drop k)))(hx:Hid (l[k]? =some x))(hs:vI (kv l k) x (decide (k+1=l.length)) la=(0,L1)):vY none 0 l=vY (kv l (k+1)) L1 (l.drop (k+1)):=by
 have h:=HG.out.trans (GU hx.out la);rw[hs,if_neg jL]at h;exact h
section
variable{pv:Option En}{x y:En}{lo:Bool}{la:Int}
theorem rH(h:x.gap=true)(h2:jB x=false):vI pv x lo la=(1,la):=by unfold vI;rw[if_pos h,if_pos h2]
theorem Mq(h:x.gap=true)(h2:jB x=true)(h3:(lo||GS pv)=true):vI pv x lo la=(9,la):=by unfold vI;rw[if_pos h,if_neg (by rw[h2];simp),if_pos h3]
theorem Mr(h:x.gap=true)(h2:jB x=true)(h3:(lo||GS pv)=false):vI pv x lo la=(0,la):=by unfold vI;rw[if_pos h,if_neg (by rw[h2];simp),if_neg (by rw[h3];simp)]
theorem lQ(h:x.gap=false)(h2:kX x≠0):vI pv x lo la=(kX x,la):=by unfold vI;rw[if_neg (by rw[h];simp),if_pos h2]
theorem lR(h:x.gap=false)(h2:kX x=0)(h3:GS pv=true):vI pv x lo la=if Zo x.ty=false then(9,la)else if x.sec<la then(9,la)else(0,x.sec):=by
 unfold vI;rw[if_neg (by rw[h];simp),if_neg (by rw[h2];simp)]
 cases pv with
 |none=>rfl
 |some y=>exact if_pos h3
theorem Ms(h:x.gap=false)(h2:kX x=0)(h3:y.gap=false):vI (some y) x lo la=if Ke y x=false then(9,la)else if(x.ty=2∨x.ty=4)∧xC y x=true then(7,la)else if x.sec<la then(9,la)else(0,x.sec):=by
 unfold vI;rw[if_neg (by rw[h];simp),if_neg (by rw[h2];simp)];exact if_neg (by rw[h3];simp)
end
set_option maxRecDepth 100000 in
set_option maxHeartbeats 8000000 in
theorem rI(pa pb:ByteArray)(S:Option Addr)(l:List En)(cap:Nat)(act:Int)(w:World)(ha:pa.size≤maxLen)(hb:pb.size≤maxLen)(hp:Hid (Ys w S l))(hxs:Hid (∀(k:Nat) (x:En),l[k]? =some x→Cd x))(hu:Hid (yE w)):
 Calls Tryz.prog 29 #[.agg #[.string pa,.string pb,.slice S l.length cap,Iv act]] w fun e w'=>e= .returned (Iv (vw pa pb l act))∧Below w.heap.size w w':=by
 have HF:Hid (vw pa pb l act=if(Qd pa&&Qd pb)=false then 5 else if(l.length:Int)>60 then 3 else if vY none 0 l≠0 then vY none 0 l else if act≠ -1∧(act<0∨act≥l.length∨JI l act=true)then 2 else 0):=hide rfl;have PA:=fun W=>Ui pa ha W
 have PB:=fun W=>Ui pb hb W
 rcases h1:Qd pa with _|_
 ·have HR:Hid (vw pa pb l act=5):=hide (by rw[HF.out,h1,if_pos (by rfl)]);rw[h1]at PA;clear h1 HF;have hM:=qo w;go_enter Tryz.func29,Tryz.ntmps29;go_wp2_with(first|(go_at_call 76;(with_reducible refine(PA _).mono ?_);rintro e W1 ⟨rfl,hq⟩;replace hM:=yd hM hq;clear hq)|(go_at_call 76;(with_reducible refine(PB _).mono ?_);rintro e W1 ⟨rfl,hq⟩;replace hM:=yd hM hq;clear hq)|((with_reducible refine lX ?_);refine mL ?_)|((with_reducible refine sX ?_);refine mS ?_;clear hM;intro W hM)|((with_reducible refine bX ?_);refine mB ?_;clear hM;intro g W hM)|((with_reducible refine zX ?_);refine mB ?_;clear hM;intro g W hM))
  all_goals
   go_ret;exact⟨qQ HR.out.symm,hM.below⟩
 rcases h2:Qd pb with _|_
 ·have HR:Hid (vw pa pb l act=5):=hide (by rw[HF.out,h1,h2,if_pos (by rfl)]);rw[h1]at PA;rw[h2]at PB;clear h1 h2 HF;have hM:=qo w;go_enter Tryz.func29,Tryz.ntmps29;go_wp2_with(first|(go_at_call 76;(with_reducible refine(PA _).mono ?_);rintro e W1 ⟨rfl,hq⟩;replace hM:=yd hM hq;clear hq)|(go_at_call 76;(with_reducible refine(PB _).mono ?_);rintro e W1 ⟨rfl,hq⟩;replace hM:=yd hM hq;clear hq)|((with_reducible refine lX ?_);refine mL ?_)|((with_reducible refine sX ?_);refine mS ?_;clear hM;intro W hM)|((with_reducible refine bX ?_);refine mB ?_;clear hM;intro g W hM)|((with_reducible refine zX ?_);refine mB ?_;clear hM;intro g W hM))
  all_goals
   go_ret;exact⟨qQ HR.out.symm,hM.below⟩
 have HF2:Hid (vw pa pb l act=if(l.length:Int)>60 then 3 else if vY none 0 l≠0 then vY none 0 l else if act≠ -1∧(act<0∨act≥l.length∨JI l act=true)then 2 else 0):=hide (by rw[HF.out,h1,h2,if_neg jL]);rw[h1]at PA;rw[h2]at PB;clear h1 h2 HF;by_cases h60:(l.length:Int)>60
 ·have HR:Hid (vw pa pb l act=3):=hide (by rw[HF2.out,if_pos h60]);clear HF2;have hM:=qo w;go_enter Tryz.func29,Tryz.ntmps29;go_wp2_with(first|(go_at_call 76;(with_reducible refine(PA _).mono ?_);rintro e W1 ⟨rfl,hq⟩;replace hM:=yd hM hq;clear hq)|(go_at_call 76;(with_reducible refine(PB _).mono ?_);rintro e W1 ⟨rfl,hq⟩;replace hM:=yd hM hq;clear hq)|((with_reducible refine lX ?_);refine mL ?_)|((with_reducible refine sX ?_);refine mS ?_;clear hM;intro W hM)|((with_reducible refine bX ?_);refine mB ?_;clear hM;intro g W hM)|((with_reducible refine zX ?_);refine mB ?_;clear hM;intro g W hM))
  all_goals
   go_ret;exact⟨qQ HR.out.symm,hM.below⟩
 have HF3:Hid (vw pa pb l act=if vY none 0 l≠0 then vY none 0 l else if act≠ -1∧(act<0∨act≥l.length∨JI l act=true)then 2 else 0):=hide (by rw[HF2.out,if_neg h60]);clear HF2;have l60:l.length≤60:=qg;clear h60;have hM:=qo w;go_enter Tryz.func29,Tryz.ntmps29;go_wp2_with(first|(go_at_call 76;(with_reducible refine(PA _).mono ?_);rintro e W1 ⟨rfl,hq⟩;replace hM:=yd hM hq;clear hq)|(go_at_call 76;(with_reducible refine(PB _).mono ?_);rintro e W1 ⟨rfl,hq⟩;replace hM:=yd hM hq;clear hq)|((with_reducible refine lX ?_);refine mL ?_)|((with_reducible refine sX ?_);refine mS ?_;clear hM;intro W hM)|((with_reducible refine bX ?_);refine mB ?_;clear hM;intro g W hM)|((with_reducible refine zX ?_);refine mB ?_;clear hM;intro g W hM));obtain⟨gp,rfl⟩:=uC hM;go_loopw [3,25] (fun a i W=>∃(k:Nat) (la:Int),k≤l.length∧a= .int .u8 la∧i=Iv (k:Int)∧Hid (vY none 0 l=vY (kv l k) la (l.drop k))∧qF w W [(gp,[.string pa,.string pb,.slice S l.length cap,Iv act],24)]) (fun a i _=>l.length-(intOf i).toNat)
 case atStart=>exact⟨0,0,by omega,rfl,rfl,hide rfl,hM⟩
 case round=>
  clear hM;obtain⟨k,la,hk,rfl,rfl,HG,hM⟩:=hrel;by_cases hlt:k<l.length
  ·(
   obtain⟨x,hx⟩:∃x,l[k]? =some x:=⟨_,List.getElem?_eq_getElem hlt⟩;obtain⟨b,o,rfl,hat⟩:=hp.out k x hx;have hxw:=hxs.out k x hx;have AL:=fun W hW=>rF x hxw W hW
   have HX:=hide hx;clear hx
   have hpre:Hid (k=0∧kv l k=none)∨∃(j:Nat) (y:En),k=j+1∧Hid (kv l k=some y)∧xA w b (o+j*20) y:=by
    rcases Nat.eq_zero_or_pos k with h0|h0
    ·exact .inl (hide ⟨h0,by unfold kv;rw[if_pos h0]⟩)
    ·obtain⟨j,rfl⟩:∃j,k=j+1:=⟨k-1,qg⟩;obtain⟨y,hy⟩:∃y,l[j]? =some y:=⟨_,List.getElem?_eq_getElem qg⟩;obtain⟨b2,o2,e,h2⟩:=hp.out j y hy;injection e with e;injection e with e1 e2;subst e1 e2;exact .inr ⟨j,y,rfl,hide (by unfold kv;rw[if_neg qg,Nat.add_sub_cancel];exact hy),h2⟩
   have HP:=hide hpre;clear hpre;go_upto_region 9 with(first|((with_reducible refine yK ?_);refine yL hM rfl (by first|exact rfl|(go_simp;done)) rfl (Zg rfl) hat (bQ rfl) ?_)|((with_reducible refine lX ?_);refine mL ?_)|((with_reducible refine sX ?_);refine mS ?_;clear hM;intro W hM)|((with_reducible refine bX ?_);refine mB ?_;clear hM;intro g W hM)|((with_reducible refine zX ?_);refine mB ?_;clear hM;intro g W hM));obtain⟨gx,rfl⟩:=uC hM;clear hat;rcases hgp:x.gap with _|_;rotate_left 1
   ·(
      go_upto_region 10 with(first|((with_reducible refine lX ?_);refine mL ?_)|((with_reducible refine sX ?_);refine mS ?_;clear hM;intro W hM)|((with_reducible refine zX ?_);refine mB ?_;clear hM;intro g W hM))
      all_goals first
       |(exact absurd hgp (Bool.eq_false_iff.1 qY))
       |(exact absurd qY (Bool.eq_false_iff.1 hgp))
       |skip
      try simp only[pS,pN,sA,sB,sC]
      go_cut [32] (fun s wx=>∃V,s= .bool V∧Hid (V=(!jB x))∧qF w wx [(gx,x.cells,63),(gp,[.string pa,.string pb,.slice (some ⟨b,o,none⟩) l.length cap,Iv act],24)])
      case first=>
       go_wp2_with(first|((with_reducible refine Ra ?_);refine rB x rfl rfl rfl rfl ?_)|((with_reducible refine lX ?_);refine mL ?_)|((with_reducible refine sX ?_);refine mS ?_;clear hM;intro W hM)|((with_reducible refine zX ?_);refine mB ?_;clear hM;intro g W hM))
       all_goals
        go_meet
        (repeat apply Exists.intro)
        exact⟨rfl,hide (by rfl),hM⟩
      case rest=>
      clear hM;obtain⟨V10,rfl,HV10,hM⟩:=hcut;rcases hp10:jB x with _|_
      ·obtain rfl:V10=true:=by rw[HV10.out,hp10];rfl
       go_wp2_with(first|((with_reducible refine lX ?_);refine mL ?_)|((with_reducible refine sX ?_);refine mS ?_;clear hM;intro W hM)|((with_reducible refine zX ?_);refine mB ?_;clear hM;intro g W hM));go_ret;exact⟨qQ (bE HF3 HG HX (rH hgp hp10) (by first|decide|assumption)).symm,hM.below⟩
      obtain rfl:V10=false:=by rw[HV10.out,hp10];rfl
      go_upto_region 12 with(first|((with_reducible refine lX ?_);refine mL ?_)|((with_reducible refine sX ?_);refine mS ?_;clear hM;intro W hM)|((with_reducible refine zX ?_);refine mB ?_;clear hM;intro g W hM))
      try simp only[pS,pN,sA,sB,sC]
      go_cut [36] (fun s wx=>∃V,s= .bool V∧Hid (V=(decide (k+1=l.length)||GS (kv l k)))∧qF w wx [(gx,x.cells,63),(gp,[.string pa,.string pb,.slice (some ⟨b,o,none⟩) l.length cap,Iv act],24)])
      case first=>
       rcases HP.out with h0|⟨j,y,rfl,hpv,hy⟩
       ·obtain⟨rfl,hpv⟩:=h0.out;have hlast:((0:Int)==(l.length:Int)-1)=decide (0+1=l.length):=by rw[Bool.eq_iff_iff];simp;omega
        go_wp2_with(first|((with_reducible refine lX ?_);refine mL ?_)|((with_reducible refine sX ?_);refine mS ?_;clear hM;intro W hM)|((with_reducible refine zX ?_);refine mB ?_;clear hM;intro g W hM))
        all_goals
         go_meet
         (repeat apply Exists.intro)
         exact⟨rfl,hide (by rw[hpv];simp[GS]),hM⟩
       ·have hyg:=Vl hy;have jb:(j:Int)≤60:=qg;have iw:IntKind.i64.wrap ((j:Int)+1-1)=j:=by rw[show(j:Int)+1-1=j by omega];exact IntWalk.i64_in _ qg
        have hz:((j:Int)+1==0)=false:=by simp;omega
        rcases hlast:decide (j+1+1=l.length)with _|_<;>rcases hyq:y.gap with _|_
        all_goals(
         have hl2:((j:Int)+1==(l.length:Int)-1)=decide (j+1+1=l.length):=by rw[Bool.eq_iff_iff];simp;omega
         rw[hlast]at hl2;rw[hyq]at hyg;clear hlast;go_wp2_with(first|((with_reducible refine yK ?_);refine zD hM rfl (by first|exact rfl|(go_simp;done)) rfl (ur rfl) hyg ?_)|((with_reducible refine lX ?_);refine mL ?_)|((with_reducible refine sX ?_);refine mS ?_;clear hM;intro W hM)|((with_reducible refine zX ?_);refine mB ?_;clear hM;intro g W hM))
         all_goals
          go_meet
          (repeat apply Exists.intro)
          exact⟨rfl,hide (by rw[hpv.out];simp_all[GS]<;>omega),hM⟩)
      case rest=>
      clear hM;obtain⟨V12,rfl,HV12,hM⟩:=hcut;rcases V12 with _|_
      ·go_wp2_with(first|((with_reducible refine lX ?_);refine mL ?_)|((with_reducible refine sX ?_);refine mS ?_;clear hM;intro W hM)|((with_reducible refine zX ?_);refine mB ?_;clear hM;intro g W hM))
       all_goals first
       |(go_roundw;(case rel=>exact⟨k+1,la,by omega,rfl,by go_num,hide (Yt HG HX (Mr hgp hp10 HV12.out.symm)),yI hM⟩);(case measure=>simp[intOf];omega))
      ·go_wp2_with(first|((with_reducible refine lX ?_);refine mL ?_)|((with_reducible refine sX ?_);refine mS ?_;clear hM;intro W hM)|((with_reducible refine zX ?_);refine mB ?_;clear hM;intro g W hM));go_ret;exact⟨qQ (bE HF3 HG HX (Mq hgp hp10 HV12.out.symm) (by first|decide|assumption)).symm,hM.below⟩
    )
   ·(
      simp only[En.cells,hgp]at AL;obtain⟨E0,hE0⟩:∃E0,kX x=E0:=⟨_,rfl⟩;have HE:=hide hE0;rw[hE0]at AL;clear hE0;by_cases hne:E0=0;rotate_left 1
      ·have hnb:(E0 !=0)=true:=by simpa using hne
       go_wp2_with(first|(go_at_call 77;(with_reducible refine(AL _ (hide (qP hM hu.out))).mono ?_);rintro e W1 ⟨rfl,hb⟩;replace hM:=qD hM hb;clear hb)|((with_reducible refine lX ?_);refine mL ?_)|((with_reducible refine sX ?_);refine mS ?_;clear hM;intro W hM)|((with_reducible refine zX ?_);refine mB ?_;clear hM;intro g W hM))
       all_goals first
        |(exact absurd qY (Bool.eq_false_iff.1 hgp))
        |(go_ret;exact⟨qQ ((bE HF3 HG HX (lQ hgp (by rw[HE.out];exact hne)) (by rw[HE.out];exact hne)).trans HE.out).symm,hM.below⟩)
      subst hne;go_upto_region 17 with(first|(go_at_call 77;(with_reducible refine(AL _ (hide (qP hM hu.out))).mono ?_);rintro e W1 ⟨rfl,hb⟩;replace hM:=qD hM hb;clear hb)|((with_reducible refine lX ?_);refine mL ?_)|((with_reducible refine sX ?_);refine mS ?_;clear hM;intro W hM)|((with_reducible refine zX ?_);refine mB ?_;clear hM;intro g W hM))
      all_goals first
       |(exact absurd qY (Bool.eq_false_iff.1 hgp))
       |skip
      try simp only[pS,pN,sA,sB,sC]
      go_cut [71] (fun s wx=>∃V,s= .bool V∧Hid (V=GS (kv l k))∧qF w wx [(gx,x.cells,63),(gp,[.string pa,.string pb,.slice (some ⟨b,o,none⟩) l.length cap,Iv act],24)])
      case first=>
       rcases HP.out with h0|⟨j,y,rfl,hpv,hy⟩
       ·obtain⟨rfl,hpv⟩:=h0.out;go_wp2_with(first|((with_reducible refine lX ?_);refine mL ?_)|((with_reducible refine sX ?_);refine mS ?_;clear hM;intro W hM)|((with_reducible refine zX ?_);refine mB ?_;clear hM;intro g W hM))
        all_goals
         go_meet
         (repeat apply Exists.intro)
         exact⟨rfl,hide (by rw[hpv];rfl),hM⟩
       ·have hyg:=Vl hy;have jb:(j:Int)≤60:=qg;have iw:IntKind.i64.wrap ((j:Int)+1-1)=j:=by rw[show(j:Int)+1-1=j by omega];exact IntWalk.i64_in _ qg
        have hz:((j:Int)+1==0)=false:=by simp;omega
        go_wp2_with(first|((with_reducible refine yK ?_);refine zD hM rfl (by first|exact rfl|(go_simp;done)) rfl (ur rfl) hyg ?_)|((with_reducible refine lX ?_);refine mL ?_)|((with_reducible refine sX ?_);refine mS ?_;clear hM;intro W hM)|((with_reducible refine zX ?_);refine mB ?_;clear hM;intro g W hM))
        all_goals
         go_meet
         (repeat apply Exists.intro)
         exact⟨rfl,hide (by rw[hpv.out];rfl),hM⟩
      case rest=>
      clear hM;obtain⟨V17,rfl,HV17,hM⟩:=hcut;have ST:=fun W=>pH x.ty W
      rcases V17 with _|_;rotate_left 1
      ·have h17:=HV17.out.symm;have HS:=hide (lR (lo:=decide (k+1=l.length)) (la:=la) hgp HE.out h17);clear h17;rcases hst:Zo x.ty with _|_
       ·rw[hst]at ST;go_wp2_with(first|(go_at_call 78;(with_reducible refine(ST _).mono ?_);rintro e W1 ⟨rfl,rfl⟩)|((with_reducible refine lX ?_);refine mL ?_)|((with_reducible refine sX ?_);refine mS ?_;clear hM;intro W hM)|((with_reducible refine zX ?_);refine mB ?_;clear hM;intro g W hM));go_ret;exact⟨qQ (bE HF3 HG HX (HS.out.trans (if_pos hst)) qG).symm,hM.below⟩
       rw[hst]at ST;have HS2:Hid (vI (kv l k) x (decide (k+1=l.length)) la=if x.sec<la then(9,la)else(0,x.sec)):=hide (by rw[HS.out,hst,if_neg jL]);clear HS hst;go_upto_region 25 with(first|(go_at_call 78;(with_reducible refine(ST _).mono ?_);rintro e W1 ⟨rfl,rfl⟩)|((with_reducible refine lX ?_);refine mL ?_)|((with_reducible refine sX ?_);refine mS ?_;clear hM;intro W hM)|((with_reducible refine zX ?_);refine mB ?_;clear hM;intro g W hM));by_cases hsec:x.sec<la
       ·go_wp2_with(first|((with_reducible refine lX ?_);refine mL ?_)|((with_reducible refine sX ?_);refine mS ?_;clear hM;intro W hM)|((with_reducible refine zX ?_);refine mB ?_;clear hM;intro g W hM))
        all_goals first
         |(exfalso;omega)
         |(go_ret;exact⟨qQ (bE HF3 HG HX (HS2.out.trans (if_pos hsec)) qG).symm,hM.below⟩)
       ·go_wp2_with(first|((with_reducible refine lX ?_);refine mL ?_)|((with_reducible refine sX ?_);refine mS ?_;clear hM;intro W hM)|((with_reducible refine zX ?_);refine mB ?_;clear hM;intro g W hM))
        all_goals first
         |(exfalso;omega)
         |(go_roundw;(case rel=>exact⟨k+1,x.sec,by omega,rfl,by go_num,hide (Yt HG HX (HS2.out.trans (if_neg hsec))),yI hM⟩);(case measure=>simp[intOf];omega))
      ·rcases HP.out with h0|⟨j,y,rfl,hpv,hy⟩
       ·exfalso;have:=HV17.out;rw[h0.out.2]at this;cases this
       have hyg0:y.gap=false:=by
        have:=HV17.out;rw[hpv.out]at this;exact this.symm
       have HS:=hide (Ms (y:=y) (lo:=decide (j+1+1=l.length)) (la:=la) hgp HE.out hyg0);clear hyg0;have hyl:=Bp hy;have jb:(j:Int)≤60:=qg;have iw:IntKind.i64.wrap ((j:Int)+1-1)=j:=by rw[show(j:Int)+1-1=j by omega];exact IntWalk.i64_in _ qg
       have JO:=fun W=>rC y x W
       have AR:=fun W=>GN y x W
       simp only[En.leg]at JO AR;have HPV:=hpv;go_upto_region 21 with(first|((with_reducible refine yK ?_);refine yL hM rfl (by first|exact rfl|(go_simp;done)) rfl (Zg rfl) hyl (bQ rfl) ?_)|((with_reducible refine lX ?_);refine mL ?_)|((with_reducible refine sX ?_);refine mS ?_;clear hM;intro W hM)|((with_reducible refine zX ?_);refine mB ?_;clear hM;intro g W hM));obtain⟨gy,rfl⟩:=uC hM;rcases hjo:Ke y x with _|_
       ·rw[hjo]at JO;go_wp2_with(first|(go_at_call 79;(with_reducible refine cb hM (JO _) ?_);clear hM;intro W1 hM)|((with_reducible refine lX ?_);refine mL ?_)|((with_reducible refine sX ?_);refine mS ?_;clear hM;intro W hM)|((with_reducible refine zX ?_);refine mB ?_;clear hM;intro g W hM));go_ret;exact⟨qQ (bE HF3 HG HX ((by rw[hpv.out];exact HS.out.trans (if_pos hjo):vI (kv l (j+1)) x (decide (j+1+1=l.length)) la=(9,la))) qG).symm,hM.below⟩
       rw[hjo]at JO;go_upto_region 23 with(first|(go_at_call 79;(with_reducible refine cb hM (JO _) ?_);clear hM;intro W1 hM)|((with_reducible refine lX ?_);refine mL ?_)|((with_reducible refine sX ?_);refine mS ?_;clear hM;intro W hM)|((with_reducible refine zX ?_);refine mB ?_;clear hM;intro g W hM))
       try simp only[pS,pN,sA,sB,sC]
       go_cut [104] (fun s wx=>∃V,s= .bool V∧Hid (V=(decide (x.ty=2∨x.ty=4)&&xC y x))∧qF w wx ((gy,y.leg,60)::[(gx,x.cells,63),(gp,[.string pa,.string pb,.slice (some ⟨b,o,none⟩) l.length cap,Iv act],24)]))
       case first=>
        rcases har:xC y x with _|_
        all_goals(
         rw[har]at AR
         have hty:((x.ty==2)=true∧decide (x.ty=2∨x.ty=4)=true)∨((x.ty==2)=false∧(x.ty==4)=true∧decide (x.ty=2∨x.ty=4)=true)∨((x.ty==2)=false∧(x.ty==4)=false∧decide (x.ty=2∨x.ty=4)=false):=by
          rcases h2:(x.ty==2)with _|_
          ·rcases h4:(x.ty==4)with _|_
           ·exact .inr (.inr ⟨rfl,rfl,by simp at h2 h4;simp[h2,h4]⟩)
           ·exact .inr (.inl ⟨rfl,rfl,by simp at h4;simp[h4]⟩)
          ·exact .inl ⟨rfl,by simp at h2;simp[h2]⟩
         rcases hty with⟨t2,td⟩|⟨t2,t4,td⟩|⟨t2,t4,td⟩
         all_goals(
          have HTD:=hide td;clear td;go_wp2_with(first|(go_at_call 80;(with_reducible refine cb hM (AR _) ?_);clear hM;intro W1 hM)|((with_reducible refine lX ?_);refine mL ?_)|((with_reducible refine sX ?_);refine mS ?_;clear hM;intro W hM)|((with_reducible refine zX ?_);refine mB ?_;clear hM;intro g W hM))
          all_goals
           go_meet
           (repeat apply Exists.intro)
           exact⟨rfl,hide (by rw[HTD.out,har];rfl),hM⟩))
       case rest=>
       clear hM;obtain⟨V23,rfl,HV23,hM⟩:=hcut;rcases V23 with _|_;rotate_left 1
       ·go_wp2_with(first|((with_reducible refine lX ?_);refine mL ?_)|((with_reducible refine sX ?_);refine mS ?_;clear hM;intro W hM)|((with_reducible refine zX ?_);refine mB ?_;clear hM;intro g W hM));go_ret;exact⟨qQ (bE HF3 HG HX ((by rw[hpv.out,HS.out,hjo,if_neg jL,if_pos (by have h2:=HV23.out;simpa using h2.symm)]:vI (kv l (j+1)) x (decide (j+1+1=l.length)) la=(7,la))) qG).symm,hM.below⟩
       have HS2:Hid (vI (kv l (j+1)) x (decide (j+1+1=l.length)) la=if x.sec<la then(9,la)else(0,x.sec)):=hide (by
        rw[hpv.out,HS.out,hjo,if_neg jL,if_neg (fun h=>by have h2:=HV23.out;rw[decide_eq_true h.1,h.2]at h2;cases h2)])
       clear HS hjo;go_upto_region 25 with(first|((with_reducible refine lX ?_);refine mL ?_)|((with_reducible refine sX ?_);refine mS ?_;clear hM;intro W hM)|((with_reducible refine zX ?_);refine mB ?_;clear hM;intro g W hM));by_cases hsec:x.sec<la
       ·go_wp2_with(first|((with_reducible refine lX ?_);refine mL ?_)|((with_reducible refine sX ?_);refine mS ?_;clear hM;intro W hM)|((with_reducible refine zX ?_);refine mB ?_;clear hM;intro g W hM))
        all_goals first
         |(exfalso;omega)
         |(go_ret;exact⟨qQ (bE HF3 HG HX (HS2.out.trans (if_pos hsec)) qG).symm,hM.below⟩)
       ·go_wp2_with(first|((with_reducible refine lX ?_);refine mL ?_)|((with_reducible refine sX ?_);refine mS ?_;clear hM;intro W hM)|((with_reducible refine zX ?_);refine mB ?_;clear hM;intro g W hM))
        all_goals first
         |(exfalso;omega)
         |(go_roundw;(case rel=>exact⟨j+1+1,x.sec,by omega,rfl,by go_num,hide (Yt HG HX (HS2.out.trans (if_neg hsec))),yI (yI hM)⟩);(case measure=>simp[intOf];omega))
    )
   )
  ·(
   obtain rfl:k=l.length:=qg
   have HE:Hid (vw pa pb l act=if(act≠ -1∧(act<0∨act≥(l.length:Int)∨JI l act=true))then 2 else 0):=hide (by
    have h0:=HG.out.trans (rJ qg la)
    rw[HF3.out,h0,if_neg jL])
   clear HG HF3;go_upto_region 29 with(first|((with_reducible refine lX ?_);refine mL ?_)|((with_reducible refine sX ?_);refine mS ?_;clear hM;intro W hM)|((with_reducible refine zX ?_);refine mB ?_;clear hM;intro g W hM))
   all_goals first
    |(exfalso;omega)
    |skip
   obtain⟨V29,hV29⟩:∃V,decide (act≠ -1∧(act<0∨act≥(l.length:Int)∨JI l act=true))=V:=⟨_,rfl⟩;have HV:=hide hV29;clear hV29;go_cut [136] (fun s wx=>s= .bool V29∧qF w wx [(gp,[.string pa,.string pb,.slice S l.length cap,Iv act],24)])
   case first=>
    by_cases a1:act= -1
    ·have hv:V29=false:=by rw[←HV.out];exact decide_eq_false (fun h=>h.1 a1)
     subst a1 hv;clear HV;go_wp2_with(first|((with_reducible refine lX ?_);refine mL ?_)|((with_reducible refine sX ?_);refine mS ?_;clear hM;intro W hM)|((with_reducible refine zX ?_);refine mB ?_;clear hM;intro g W hM))
     all_goals
      go_meet;exact⟨by first|rfl|exact congrArg Value.bool (by simp_all[bne]),hM⟩
    have q1:(act== -1)=false:=by simpa using a1
    by_cases a2:act<0
    ·have hv:V29=true:=by rw[←HV.out];exact decide_eq_true ⟨a1,.inl a2⟩
     subst hv;clear HV;go_wp2_with(first|((with_reducible refine lX ?_);refine mL ?_)|((with_reducible refine sX ?_);refine mS ?_;clear hM;intro W hM)|((with_reducible refine zX ?_);refine mB ?_;clear hM;intro g W hM))
     all_goals
      go_meet;exact⟨by first|rfl|exact congrArg Value.bool (by simp_all[bne]),hM⟩
    by_cases a3:act≥(l.length:Int)
    ·have hv:V29=true:=by rw[←HV.out];exact decide_eq_true ⟨a1,.inr (.inl a3)⟩
     subst hv;clear HV;go_wp2_with(first|((with_reducible refine lX ?_);refine mL ?_)|((with_reducible refine sX ?_);refine mS ?_;clear hM;intro W hM)|((with_reducible refine zX ?_);refine mB ?_;clear hM;intro g W hM))
     all_goals
      go_meet;exact⟨by first|rfl|exact congrArg Value.bool (by simp_all[bne]),hM⟩
    obtain⟨n,rfl⟩:∃n:Nat,act=n:=⟨act.toNat,qg⟩;obtain⟨y,hy⟩:∃y,l[n]? =some y:=⟨_,List.getElem?_eq_getElem qg⟩;obtain⟨b,o,rfl,hat⟩:=hp.out n y hy;have hyg:=Vl hat
    have hv:V29=y.gap:=by
     rw[←HV.out];have e:JI l (n:Int)=y.gap:=by unfold JI;rw[Int.toNat_natCast,hy]
     rw[e];rcases y.gap with _|_
     ·exact decide_eq_false (fun h=>by rcases h.2 with h|h|h<;>first|omega|cases h)
     ·exact decide_eq_true ⟨a1,.inr (.inr rfl)⟩
    subst hv;have n1:(n:Int)<(l.length:Int):=qg;clear HV a2 a3 hat hy;go_wp2_with(first|((with_reducible refine yK ?_);refine zD hM rfl (by first|exact rfl|(go_simp;done)) rfl (ur rfl) hyg ?_)|((with_reducible refine lX ?_);refine mL ?_)|((with_reducible refine sX ?_);refine mS ?_;clear hM;intro W hM)|((with_reducible refine zX ?_);refine mB ?_;clear hM;intro g W hM))
    all_goals
     go_meet;exact⟨by first|rfl|exact congrArg Value.bool (by simp[q1,show¬((n:Int)<0) by omega,show¬(l.length≤n) by omega]),hM⟩
   case rest=>
   clear hM;obtain⟨rfl,hM⟩:=hcut;rcases V29 with _|_
   ·have HE2:Hid (vw pa pb l act=0):=hide (by rw[HE.out,if_neg (of_decide_eq_false HV.out)]);clear HE HV;go_wp2_with(first|((with_reducible refine lX ?_);refine mL ?_)|((with_reducible refine sX ?_);refine mS ?_;clear hM;intro W hM)|((with_reducible refine zX ?_);refine mB ?_;clear hM;intro g W hM));go_ret;exact⟨qQ HE2.out.symm,hM.below⟩
   ·have HE2:Hid (vw pa pb l act=2):=hide (by rw[HE.out,if_pos (of_decide_eq_true HV.out)]);clear HE HV;go_wp2_with(first|((with_reducible refine lX ?_);refine mL ?_)|((with_reducible refine sX ?_);refine mS ?_;clear hM;intro W hM)|((with_reducible refine zX ?_);refine mB ?_;clear hM;intro g W hM));go_ret;exact⟨qQ HE2.out.symm,hM.below⟩
   )
end Go.Proofs.YtiegohjobhehcaaGreatDoor
