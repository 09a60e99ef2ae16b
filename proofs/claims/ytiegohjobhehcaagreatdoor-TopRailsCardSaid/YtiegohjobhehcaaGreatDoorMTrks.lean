/-
  resolve.Tracks for all plans.
-/
import Derived.Test.YtiegohjobhehcaaGreatDoorMPlan3
import Derived.Test.YtiegohjobhehcaaGreatDoorMResF
import Derived.Deep.Slices
namespace Go.Proofs.YtiegohjobhehcaaGreatDoor
open Go.RowKit
set_option linter.unusedVariables false
set_option linter.unusedSimpArgs false
theorem xK{w W:World}{L:List qZ}(h:qF w W L):qF w W []:=⟨h.below,(fun _ _ _ h=>by cases h),List.nodup_nil⟩
theorem Ph:yw Tryz.prog 91 15 120:=by unfold yw;kernel_rfl
theorem BL{pa pb:ByteArray}{l:List En}{act fx fy c spd bank oalt gr:Int}(h:vw pa pb l act≠0):zV pa pb l act fx fy c spd bank oalt gr=([],0,vw pa pb l act):=by unfold zV;rw[if_pos h]
theorem TS{pa pb:ByteArray}{l:List En}{act fx fy c spd bank oalt gr:Int}(h:vw pa pb l act=0)(h2:kJ spd bank oalt gr≠0):zV pa pb l act fx fy c spd bank oalt gr=([],0,kJ spd bank oalt gr):=by unfold zV;rw[if_neg (by rw[h];simp),if_pos h2]
theorem mq{pa pb:ByteArray}{l:List En}{act fx fy c spd bank oalt gr:Int}(h:vw pa pb l act=0)(h2:kJ spd bank oalt gr=0)(h3:qw fx fy=false):zV pa pb l act fx fy c spd bank oalt gr=([],0,1):=by unfold zV;rw[if_neg (by rw[h];simp),if_neg (by rw[h2];simp),if_pos h3]
theorem TT{pa pb:ByteArray}{l:List En}{act fx fy c spd bank oalt gr:Int}(h:vw pa pb l act=0)(h2:kJ spd bank oalt gr=0)(h3:qw fx fy=true)(h4:decide (0≤c∧c<129600000)=false):zV pa pb l act fx fy c spd bank oalt gr=([],0,2):=by
 have h5:=of_decide_eq_false h4;unfold zV;rw[if_neg (by rw[h];simp),if_neg (by rw[h2];simp),if_neg (by rw[h3];simp),if_pos qg]
theorem mr{pa pb:ByteArray}{l:List En}{act fx fy c spd bank oalt gr:Int}(h:vw pa pb l act=0)(h2:kJ spd bank oalt gr=0)(h3:qw fx fy=true)(h4:decide (0≤c∧c<129600000)=true):
 zV pa pb l act fx fy c spd bank oalt gr=kG [] (zU spd bank oalt gr (kW l (zM act) (zM act)) (zM act) fx fy c oalt (l.drop (zM act))):=by
 have h5:=of_decide_eq_true h4;rw[JJ];have e:kW l (zM act) (zM act)=none:=if_pos rfl;rw[e];unfold zV;rw[if_neg (by rw[h];simp),if_neg (by rw[h2];simp),if_neg (by rw[h3];simp),if_neg qg]
theorem Dv{pa pb:ByteArray}{l:List En}{act:Int}(h:vw pa pb l act=0):l.length≤60∧(act= -1∨(0≤act∧act<l.length)):=by
 unfold vw at h;split at h
 ·cases h
 split at h
 ·cases h
 split at h
 ·rename_i h3;exact absurd h h3
 split at h
 ·cases h
 ·omega
theorem TU{e:TypeId}{v:Value}{ts:List Tk}{T:Tk}{cs:List Value}{B:List qZ}(h:bZ e 15 v (ts.length+1) (ts.flatMap Tk.cells++cs) B)(hc:cs=T.cells):bZ e 15 v (ts++[T]).length ((ts++[T]).flatMap Tk.cells) B:=by
 have e1:(ts++[T]).flatMap Tk.cells=ts.flatMap Tk.cells++T.cells:=by simp[List.flatMap_append]
 rw[e1,List.length_append,←hc];exact h
theorem Pi{act:Int}{n:Nat}(h:act= -1∨(0≤act∧act<n)):((zM act:Nat):Int)=max act 0∧zM act≤n:=by unfold zM;omega
theorem RP:xI Kf:=⟨⟨qG,qG,by decide,qG⟩,by unfold qz;decide,by unfold qz;decide,by unfold qz;decide⟩
set_option maxRecDepth 100000 in
set_option maxHeartbeats 16000000 in
theorem mA(pa pb:ByteArray)(S:Option Addr)(l:List En)(cap:Nat)(act fx fy c spd bank oalt gr:Int)(w:World)(ha:pa.size≤maxLen)(hb:pb.size≤maxLen)(hp:Hid (Ys w S l))(hxs:Hid (∀(k:Nat) (x:En),l[k]? =some x→Cd x))(hc:qz c)(ho:qz oalt)(hu:Hid (yE w)):
 Calls Tryz.prog 11 #[.agg #[.string pa,.string pb,.slice S l.length cap,Iv act],.agg #[Iv fx,Iv fy],Iv c,.agg #[Iv spd,Iv bank,Iv oalt,Iv gr]] w fun e w'=>∃V B,e= .returned (.tuple #[V,Iv (zV pa pb l act fx fy c spd bank oalt gr).2.1,Iv (zV pa pb l act fx fy c spd bank oalt gr).2.2])∧bZ 91 15 V (zV pa pb l act fx fy c spd bank oalt gr).1.length ((zV pa pb l act fx fy c spd bank oalt gr).1.flatMap Tk.cells) B∧qF w w' B:=by
 have PC:=fun W h1 h2=>rI pa pb S l cap act W ha hb h1 hxs h2
 have OC:=fun W=>yg spd bank oalt gr W
 have PV:=fun W=>qE fx fy W
 have RC:=fun W=>zS c W
 obtain⟨R,hR⟩:∃R,zV pa pb l act fx fy c spd bank oalt gr=R:=⟨_,rfl⟩;rw[hR];obtain⟨E0,hE⟩:∃E0,vw pa pb l act=E0:=⟨_,rfl⟩;rw[hE]at PC;by_cases h1:E0=0;rotate_left 1
 ·have HR:Hid (R=([],0,E0)):=hide (by rw[←hR,←hE];exact BL (by rw[hE];exact h1));have hne:(E0 !=0)=true:=by simpa using h1
  clear hE hR h1;have hM:=qo w;go_enter Tryz.func11,Tryz.ntmps11;go_wp2_with(first|(refine qe ?_;clear hM;intro g W hM)|(go_at_call 29;(refine(PC _ (hide (uw hM hp.out)) (hide (qP hM hu.out))).mono ?_);rintro e W1 ⟨rfl,hb⟩;replace hM:=qD hM hb;clear hb)|(refine qt (OC _) ?_;clear hM;intro W1 hM)|(refine qt (PV _) ?_;clear hM;intro W1 hM)|refine qN (RC _) ?_)
  all_goals
   go_ret3;exact⟨.slice none 0 0,[],by rw[HR.out];rfl,by rw[HR.out];exact .nil,xK hM⟩
 subst h1;obtain⟨E1,hE1⟩:∃E1,kJ spd bank oalt gr=E1:=⟨_,rfl⟩;rw[hE1]at OC;by_cases h2:E1=0;rotate_left 1
 ·have HR:Hid (R=([],0,E1)):=hide (by rw[←hR,←hE1];exact TS hE (by rw[hE1];exact h2));have hne:(E1 !=0)=true:=by simpa using h2
  clear hE hE1 hR h2;have hM:=qo w;go_enter Tryz.func11,Tryz.ntmps11;go_wp2_with(first|(refine qe ?_;clear hM;intro g W hM)|(go_at_call 29;(refine(PC _ (hide (uw hM hp.out)) (hide (qP hM hu.out))).mono ?_);rintro e W1 ⟨rfl,hb⟩;replace hM:=qD hM hb;clear hb)|(refine qt (OC _) ?_;clear hM;intro W1 hM)|(refine qt (PV _) ?_;clear hM;intro W1 hM)|refine qN (RC _) ?_)
  all_goals
   go_ret3;exact⟨.slice none 0 0,[],by rw[HR.out];rfl,by rw[HR.out];exact .nil,xK hM⟩
 subst h2;rcases h3:qw fx fy with _|_
 ·have HR:Hid (R=([],0,1)):=hide (by rw[←hR];exact mq hE hE1 h3);rw[h3]at PV;clear hE hE1 hR h3;have hM:=qo w;go_enter Tryz.func11,Tryz.ntmps11;go_wp2_with(first|(refine qe ?_;clear hM;intro g W hM)|(go_at_call 29;(refine(PC _ (hide (uw hM hp.out)) (hide (qP hM hu.out))).mono ?_);rintro e W1 ⟨rfl,hb⟩;replace hM:=qD hM hb;clear hb)|(refine qt (OC _) ?_;clear hM;intro W1 hM)|(refine qt (PV _) ?_;clear hM;intro W1 hM)|refine qN (RC _) ?_)
  all_goals
   go_ret3;exact⟨.slice none 0 0,[],by rw[HR.out];rfl,by rw[HR.out];exact .nil,xK hM⟩
 rcases h4:decide (0≤c∧c<129600000)with _|_
 ·have HR:Hid (R=([],0,2)):=hide (by rw[←hR];exact TT hE hE1 h3 h4);rw[h3]at PV;rw[h4]at RC;clear hE hE1 hR h3 h4;have hM:=qo w;go_enter Tryz.func11,Tryz.ntmps11;go_wp2_with(first|(refine qe ?_;clear hM;intro g W hM)|(go_at_call 29;(refine(PC _ (hide (uw hM hp.out)) (hide (qP hM hu.out))).mono ?_);rintro e W1 ⟨rfl,hb⟩;replace hM:=qD hM hb;clear hb)|(refine qt (OC _) ?_;clear hM;intro W1 hM)|(refine qt (PV _) ?_;clear hM;intro W1 hM)|refine qN (RC _) ?_)
  all_goals
   go_ret3;exact⟨.slice none 0 0,[],by rw[HR.out];rfl,by rw[HR.out];exact .nil,xK hM⟩
 have HR0:=hide (hR.symm.trans (mr hE hE1 h3 h4));rw[h3]at PV;rw[h4]at RC;obtain⟨l60,hact⟩:=Dv hE;obtain⟨hbm,hbl⟩:=Pi hact;have HBM:=hide hbm;clear hE hE1 hR h3 h4 hbm;have hM:=qo w;go_enter Tryz.func11,Tryz.ntmps11;go_upto_region 0 with fail;go_cut [4,5,7] (fun s4 s5 s7 wx=>∃gP gF gO,s4= .pointer (some ⟨gP,0,none⟩)∧s5= .pointer (some ⟨gF,0,none⟩)∧s7= .pointer (some ⟨gO,0,none⟩)∧qF w wx [(gO,[Iv spd,Iv bank,Iv oalt,Iv gr],28),(gF,[Iv fx,Iv fy],26),(gP,[.string pa,.string pb,.slice S l.length cap,Iv act],24)])
 case first=>
  go_wp2_with(first|(refine qe ?_;clear hM;intro g W hM)|(go_at_call 29;(refine(PC _ (hide (uw hM hp.out)) (hide (qP hM hu.out))).mono ?_);rintro e W1 ⟨rfl,hb⟩;replace hM:=qD hM hb;clear hb)|(refine qt (OC _) ?_;clear hM;intro W1 hM)|(refine qt (PV _) ?_;clear hM;intro W1 hM)|refine qN (RC _) ?_)
  all_goals
   go_meet;exact⟨_,_,_,rfl,rfl,rfl,hM⟩
 case rest=>
 clear hM;obtain⟨gP,gF,gO,rfl,rfl,rfl,hM⟩:=hcut;go_upto_region 12 with(first|(refine qe ?_;clear hM;intro g W hM)|(go_at_call 29;(refine(PC _ (hide (uw hM hp.out)) (hide (qP hM hu.out))).mono ?_);rintro e W1 ⟨rfl,hb⟩;replace hM:=qD hM hb;clear hb)|(refine qt (OC _) ?_;clear hM;intro W1 hM)|(refine qt (PV _) ?_;clear hM;intro W1 hM)|refine qN (RC _) ?_);refine gW hM qM ?_;(clear hM;intro W hM hK);refine kP 0 hM hK ?_;refine qj ?_
 first|refine kL 1 hM hK ?_|refine kM 1 hM hK ?_
 refine qj ?_;refine kP 2 hM hK ?_;refine qj ?_
 first|refine kL 3 hM hK ?_|refine kM 3 hM hK ?_
 refine qj ?_;refine kP 4 hM hK ?_;refine qj ?_;refine kP 5 hM hK ?_;refine qj ?_;refine kP 6 hM hK ?_;refine qj ?_;refine qp qM ?_;rw[←HBM.out];have HRK:=HR0;clear HR0;go_wp2_with(first|(refine qe ?_;clear hM;intro g W hM));go_loopw [2,13,14,16] (fun cc v al i W=>∃(k:Nat) (ck ak fxk fyk:Int) (B:List qZ) (ts:List Tk),zM act≤k∧k≤l.length∧ts.length≤k∧cc=Iv ck∧al=Iv ak∧i=Iv (k:Int)∧qz ck∧qz ak∧Hid (bZ 91 15 v ts.length (ts.flatMap Tk.cells) B)∧Hid (R=kG ts (zU spd bank oalt gr (kW l (zM act) k) k fxk fyk ck ak (l.drop k)))∧qF w W ((gO,[Iv spd,Iv bank,Iv oalt,Iv gr],28)::(gF,[Iv fxk,Iv fyk],26)::(gP,[.string pa,.string pb,.slice S l.length cap,Iv act],24)::B)) (fun _ _ _ i _=>l.length-(intOf i).toNat)
 case atStart=>exact⟨zM act,c,oalt,fx,fy,[],[],Nat.le_refl _,hbl,by simp,rfl,rfl,rfl,hc,ho,hide .nil,HRK,hM⟩
 case round=>
  clear hM HRK;obtain⟨k,ck,ak,fxk,fyk,B,ts,hbk,hkl,hts,rfl,rfl,rfl,hck,hak,HO,HR,hM⟩:=hrel;by_cases hlt:k<l.length
  ·(
   obtain⟨x,hx⟩:∃x,l[k]? =some x:=⟨_,List.getElem?_eq_getElem hlt⟩;obtain⟨b,o,rfl,hat⟩:=hp.out k x hx;have hxw:=hxs.out k x hx;have HX:=hide hx;clear hx;go_upto_region 17 with(first|((with_reducible refine yK ?_);refine yL hM rfl (by first|exact rfl|(go_simp;done)) rfl (Zg rfl) hat (bQ rfl) ?_)|(refine qe ?_;clear hM;intro g W hM));obtain⟨gx,rfl⟩:=uC hM;clear hat;rcases hgp:x.gap with _|_;rotate_left 1
   · -- a discontinuity
     go_wp2_with(first|(refine qe ?_;clear hM;intro g W hM))
     all_goals first
      |(exact absurd hgp (Bool.eq_false_iff.1 qY))
      |(go_roundw;(case rel=>exact⟨k+1,ck,ak,fxk,fyk,B,ts,by omega,by omega,by omega,rfl,rfl,by go_num,hck,hak,HO,hide (rL HX.out hbk hgp HR.out),yI hM⟩);(case measure=>simp[intOf];omega))
   have hpre:Hid (kW l (zM act) k=none∧k=zM act)∨∃(j:Nat) (y:En),k=j+1∧zM act<k∧Hid (kW l (zM act) k=some y)∧xA w b (o+j*20) y:=by
    rcases Nat.eq_or_lt_of_le hbk with h0|h0
    ·exact .inl (hide ⟨by unfold kW;rw[if_pos h0.symm],h0.symm⟩)
    ·obtain⟨j,rfl⟩:∃j,k=j+1:=⟨k-1,qg⟩;obtain⟨y,hy⟩:∃y,l[j]? =some y:=⟨_,List.getElem?_eq_getElem qg⟩;obtain⟨b2,o2,e,h2⟩:=hp.out j y hy;injection e with e;injection e with e1 e2;subst e1 e2;exact .inr ⟨j,y,rfl,h0,hide (by unfold kW;rw[if_neg qg,Nat.add_sub_cancel];exact hy),h2⟩
   have HP:=hide hpre;clear hpre;obtain⟨y,hy⟩:∃y,(l[k+1]?).getD Kf=y:=⟨_,rfl⟩;have HY:=hide hy;clear hy;obtain⟨Q,hQ⟩:∃Q,AU (kW l (zM act) k)=Q:=⟨_,rfl⟩;have HQ:=hide hQ;clear hQ;go_upto_region 19 with(first|(refine qe ?_;clear hM;intro g W hM))
   all_goals first
    |(exact absurd qY (Bool.eq_false_iff.1 hgp))
    |skip
   obtain⟨gt,rfl⟩:=uC hM;refine qj ?_;go_cut [70] (fun s wx=>s= .bool Q∧qF w wx ((gt,Tk.zero.cells,91)::(gx,x.cells,63)::(gO,[Iv spd,Iv bank,Iv oalt,Iv gr],28)::(gF,[Iv fxk,Iv fyk],26)::(gP,[.string pa,.string pb,.slice (some ⟨b,o,none⟩) l.length cap,Iv act],24)::B))
   case first=>
    rcases HP.out with h0|⟨j,y0,rfl,hbl,hpv,hy⟩
    ·have hq0:Q=false:=by rw[←HQ.out,h0.out.1];rfl
     have hge:k≤zM act:=by have:=h0.out.2;omega
     have hgt0:decide ((zM act:Int)<(k:Int))=false:=decide_eq_false qg;have hgt1:decide (zM act<k)=false:=decide_eq_false qg;clear h0 HP;subst hq0;go_wp2_with(first|(refine qe ?_;clear hM;intro g W hM))
     all_goals
      go_meet;exact⟨rfl,hM⟩
    ·have hyg:=Vl hy;have hq0:Q=y0.gap:=by rw[←HQ.out,hpv.out];rfl
     subst hq0;have jb:(j:Int)≤60:=qg;have iw:IntKind.i64.wrap ((j:Int)+1-1)=j:=by rw[show(j:Int)+1-1=j by omega];exact IntWalk.i64_in _ qg
     have hz:decide ((zM act:Int)<(j:Int)+1)=true:=decide_eq_true qg;have hz1:decide (zM act<j+1)=true:=decide_eq_true qg;clear HP hpv;go_wp2_with(first|((with_reducible refine yK ?_);refine zD hM rfl (by first|exact rfl|(go_simp;done)) rfl (ur rfl) hyg ?_)|(refine qe ?_;clear hM;intro g W hM))
     all_goals
      go_meet;exact⟨rfl,hM⟩
   case rest=>
   clear hM;obtain⟨rfl,hM⟩:=hcut;go_upto_if 70 with(first|(refine qe ?_;clear hM;intro g W hM));refine qj ?_;go_cut [18] (fun s wx=>∃T:Tk,s= .pointer (some ⟨gt,0,none⟩)∧Hid (zy (kW l (zM act) k) fxk fyk ck ak x y spd bank oalt gr=(T,0))∧qF w wx ((gt,T.cells,91)::(gx,x.cells,63)::(gO,[Iv spd,Iv bank,Iv oalt,Iv gr],28)::(gF,[Iv fxk,Iv fyk],26)::(gP,[.string pa,.string pb,.slice (some ⟨b,o,none⟩) l.length cap,Iv act],24)::B))
   case first=>
    rcases Q with _|_;rotate_left 1
    ·have HT:=hide (show zy (kW l (zM act) k) fxk fyk ck ak x y spd bank oalt gr=(Uj x ck,0) by unfold zy;rw[if_pos HQ.out]);have ST:∀W,Calls _ _ _ _ _:=fun W=>kU x.ex x.ey x.ex x.ey ck W
     have e1:zF x.ex x.ey x.ex x.ey ck=av 1 x.ex x.ey x.ex x.ey ck 0:=by unfold zF;rw[if_pos ⟨rfl,rfl⟩]
     rw[e1]at ST;clear e1;by_cases ht3:x.ty=3
     ·have q3:(x.ty==3)=true:=by simpa using ht3
      have HG:=hide (show Uj x ck=⟨1,x.ex,x.ey,x.ex,x.ey,0,0,0,0,0,x.crs,x.crs,0,0,true⟩ by unfold Uj;rw[if_pos ht3]);clear ht3;go_upto_region 23 with(first|(refine qe ?_;clear hM;intro g W hM)|(refine qt (ST _) ?_;clear hM;intro W1 hM));refine' gV hM qM (.tmp 18) rfl ?_ ?_;rotate_left 1;(·repeat constructor);(clear hM;intro W hM hK hne);refine kP 0 hM hK ?_;refine qj ?_;refine kP 1 hM hK ?_;refine qj ?_
      first|refine kL 2 hM hK ?_|refine kM 2 hM hK ?_
      refine qj ?_;refine kP 3 hM hK ?_;refine qj ?_;refine kP 4 hM hK ?_;refine qj ?_
      first|refine kL 5 hM hK ?_|refine kM 5 hM hK ?_
      refine qj ?_;refine kP 6 hM hK ?_;refine qj ?_;refine' vC hM (i:=7) (ym rfl) qM rfl rfl rfl ?_ ?_ ?_ ?_ ?_ ?_ ?_ hK hne ?_;rotate_left 6;(·constructor);(·repeat constructor);(·repeat constructor);(·repeat constructor);(·exact bQ rfl);(·rfl);(·exact yf rfl);(clear hM hK;intro W hM hK);refine qj ?_;refine kP 8 hM hK ?_;refine qj ?_;refine' vC hM (i:=9) (ym rfl) qM rfl rfl rfl ?_ ?_ ?_ ?_ ?_ ?_ ?_ hK hne ?_;rotate_left 6;(·constructor);(·repeat constructor);(·repeat constructor);(·repeat constructor);(·exact bQ rfl);(·rfl);(·exact yf rfl);(clear hM hK;intro W hM hK);refine qj ?_;refine qp qM ?_;go_wp2_with(first|(refine qe ?_;clear hM;intro g W hM))
      all_goals
       go_meet;exact⟨⟨1,x.ex,x.ey,x.ex,x.ey,0,0,0,0,0,x.crs,x.crs,0,0,true⟩,rfl,hide (HT.out.trans (by rw[HG.out])),hM⟩
     ·have q3:(x.ty==3)=false:=by simpa using ht3
      have HG:=hide (show Uj x ck=⟨1,x.ex,x.ey,x.ex,x.ey,0,0,0,0,0,ck,ck,0,0,true⟩ by unfold Uj;rw[if_neg ht3]);clear ht3;go_wp2_with(first|(refine qe ?_;clear hM;intro g W hM)|(refine qt (ST _) ?_;clear hM;intro W1 hM))
      all_goals
       go_meet;exact⟨⟨1,x.ex,x.ey,x.ex,x.ey,0,0,0,0,0,ck,ck,0,0,true⟩,rfl,hide (HT.out.trans (by rw[HG.out])),hM⟩
    ·have HT:=hide (show zy (kW l (zM act) k) fxk fyk ck ak x y spd bank oalt gr=qB fxk fyk ck ak x y spd bank oalt gr by unfold zy;rw[if_neg (by rw[HQ.out];simp)])
     have hyw:xI y:=by
      by_cases hl2:k+1<l.length
      ·have h1:l[k+1]? =some y:=by
        have h2:=HY.out;rw[List.getElem?_eq_getElem hl2]at h2⊢;exact congrArg some h2
       exact(hxs.out _ _ h1).w
      ·have h2:=HY.out;rw[List.getElem?_eq_none qg]at h2;rw[←h2];exact RP
     have RS:=fun W hW=>Tr fxk fyk ck ak x y spd bank oalt gr hxw.w hyw hak hck W hW
     obtain⟨T,e,hTe⟩:∃T e,qB fxk fyk ck ak x y spd bank oalt gr=(T,e):=⟨_,_,rfl⟩;rw[hTe]at RS;have HT2:=hide (HT.out.trans hTe);simp only[En.cells,hgp]at RS;clear hTe HT;have kb:(k:Int)≤60:=qg;have iw:IntKind.i64.wrap ((k:Int)+1)=(k:Int)+1:=IntWalk.i64_in _ qg
     have hnext:Hid (k+1<l.length∧xA w b (o+(k+1)*20) y)∨Hid (l.length≤k+1∧y=Kf):=by
      by_cases hl2:k+1<l.length
      ·have h1:l[k+1]? =some y:=by
        have h2:=HY.out;rw[List.getElem?_eq_getElem hl2]at h2⊢;exact congrArg some h2
       obtain⟨b2,o2,e,h2⟩:=hp.out _ _ h1;injection e with e;injection e with e1 e2;subst e1 e2;exact .inl (hide ⟨hl2,h2⟩)
      ·have h2:=HY.out;rw[List.getElem?_eq_none qg]at h2;exact .inr (hide ⟨qg,h2.symm⟩)
     have HNE:=hide hnext;clear hnext;by_cases he:e=0
     ·subst he;rcases HNE.out with h|h
      ·have k1:(k:Int)+1<(l.length:Int):=by have:=h.out.1;omega
       have hatn:=h.out.2;clear HNE h;go_wp2_with(first|(go_at_call 34;(with_reducible refine(RS _ (hide (qP hM hu.out))).mono ?_);rintro e W1 ⟨rfl,hb⟩;replace hM:=qD hM hb;clear hb)|((with_reducible refine yK ?_);refine yL hM rfl (by first|exact rfl|(go_simp;done)) rfl (Zg rfl) hatn (bQ rfl) ?_)|(refine qe ?_;clear hM;intro g W hM))
       all_goals
        go_meet;exact⟨T,rfl,HT2,yI hM⟩
      ·have k1:¬((k:Int)+1<(l.length:Int)):=by have:=h.out.1;omega
       obtain rfl:=h.out.2;simp only[Kf]at RS;clear HNE h;go_wp2_with(first|(go_at_call 34;(with_reducible refine(RS _ (hide (qP hM hu.out))).mono ?_);rintro e W1 ⟨rfl,hb⟩;replace hM:=qD hM hb;clear hb)|((with_reducible refine yK ?_);refine yL hM rfl (by first|exact rfl|(go_simp;done)) rfl (Zg rfl) hatn (bQ rfl) ?_)|(refine qe ?_;clear hM;intro g W hM))
       all_goals
        go_meet;exact⟨T,rfl,HT2,yI hM⟩
     ·have HE:=hide (rM HX.out HY.out hgp HT2.out he HR.out);have hne:(e !=0)=true:=by simpa using he
      rcases HNE.out with h|h
      ·have k1:(k:Int)+1<(l.length:Int):=by have:=h.out.1;omega
       have hatn:=h.out.2;clear HNE h he;go_wp2_with(first|(go_at_call 34;(with_reducible refine(RS _ (hide (qP hM hu.out))).mono ?_);rintro e W1 ⟨rfl,hb⟩;replace hM:=qD hM hb;clear hb)|((with_reducible refine yK ?_);refine yL hM rfl (by first|exact rfl|(go_simp;done)) rfl (Zg rfl) hatn (bQ rfl) ?_)|(refine qe ?_;clear hM;intro g W hM))
       all_goals
        go_ret3;exact⟨.slice none 0 0,[],by rw[HE.out];rfl,by rw[HE.out];exact .nil,xK hM⟩
      ·have k1:¬((k:Int)+1<(l.length:Int)):=by have:=h.out.1;omega
       obtain rfl:=h.out.2;simp only[Kf]at RS;clear HNE h he;go_wp2_with(first|(go_at_call 34;(with_reducible refine(RS _ (hide (qP hM hu.out))).mono ?_);rintro e W1 ⟨rfl,hb⟩;replace hM:=qD hM hb;clear hb)|((with_reducible refine yK ?_);refine yL hM rfl (by first|exact rfl|(go_simp;done)) rfl (Zg rfl) hatn (bQ rfl) ?_)|(refine qe ?_;clear hM;intro g W hM))
       all_goals
        go_ret3;exact⟨.slice none 0 0,[],by rw[HE.out];rfl,by rw[HE.out];exact .nil,xK hM⟩
   case rest=>
   clear hM;obtain⟨T,rfl,HT,hM⟩:=hcut;have hco:=rP (kW l (zM act) k) fxk fyk ak y spd bank oalt gr hck hxw.w.crs;have HNX:=hide (rN HX.out HY.out hbk hgp HT.out HR.out)
   have hco2:qz T.co:=by
    have h2:=hco (by rw[HT.out]);rw[HT.out]at h2;exact h2
   have hup:qz (tv x ak):=Rf hak hxw.lo;have l61:k+1≤61:=qg;clear hco HT;go_upto_region 33 with(first|((with_reducible refine uJ ?_);refine' yZ hM rfl rfl ?_ Tryz.underlying82 Ph ?_ qG qG ?_;rotate_left 1;(·constructor);(·rfl);(clear hM;intro g W hM))|((with_reducible refine kD ?_);refine' KZ hM rfl rfl rfl rfl HO.out ?_ Tryz.underlying82 Ph ?_ ?_ ?_ ?_ ?_ ?_ ?_;rotate_left 1;(·repeat constructor);rotate_left 2;(·repeat constructor);(·rfl);(·exact yf rfl);(·decide);(·omega);(·(unfold maxLen;omega));(clear hM;intro ga capA BA W HOA hM;simp only[List.cons_append,List.nil_append]at hM))|(refine qe ?_;clear hM;intro g W hM));refine' gV hM qM (.tmp 5) rfl ?_ ?_;rotate_left 1;(·repeat constructor);(clear hM;intro W hM hK hne);refine kP 0 hM hK ?_;refine qj ?_
   first|refine kL 1 hM hK ?_|refine kM 1 hM hK ?_
   refine qj ?_;refine kP 2 hM hK ?_;refine qj ?_
   first|refine kL 3 hM hK ?_|refine kM 3 hM hK ?_
   refine qj ?_;refine' vC hM (i:=4) (ym rfl) qM rfl rfl rfl ?_ ?_ ?_ ?_ ?_ ?_ ?_ hK hne ?_;rotate_left 6;(·constructor);(·repeat constructor);(·repeat constructor);(·repeat constructor);(·exact bQ rfl);(·rfl);(·exact yf rfl);(clear hM hK;intro W hM hK);refine qj ?_;refine kP 5 hM hK ?_;refine qj ?_;refine qp qM ?_;by_cases hcl:x.ty=7∨x.ty=11∨x.ty=14
   ·have HU:=hide (show tv x ak=max ak x.lo by unfold tv;rw[if_pos hcl]);rcases hcl with h|h|h
    all_goals(
     have h7:(x.ty==7)=decide (x.ty=7):=rfl;have c7:(x.ty==7)=true∨(x.ty==7)=false:=by cases(x.ty==7)<;>simp
     have c11:(x.ty==11)=true∨(x.ty==11)=false:=by cases(x.ty==11)<;>simp
     have c14:(x.ty==14)=true∨(x.ty==14)=false:=by cases(x.ty==14)<;>simp
     clear h7;rcases c7 with c7|c7<;>rcases c11 with c11|c11<;>rcases c14 with c14|c14
     all_goals(
      first
       |(exfalso;simp at c7 c11 c14;omega)
       |(clear h
         go_wp2_with(first|(refine qe ?_;clear hM;intro g W hM))
         all_goals
          go_roundw
          case rel=>exact⟨k+1,T.co,tv x ak,T.bx,T.b_y,BA,ts++[{T with n:=(k:Int)}],by omega,by omega,by simp;omega,rfl,by rw[HU.out],by go_num,hco2,hup,hide (TU HOA rfl),HNX,yI (yI (yI hM))⟩
          case measure=>simp[intOf];omega)))
   ·have HU:=hide (show tv x ak=ak by unfold tv;rw[if_neg hcl]);have c7:(x.ty==7)=false:=by simp;omega
    have c11:(x.ty==11)=false:=by simp;omega
    have c14:(x.ty==14)=false:=by simp;omega
    clear hcl;go_wp2_with(first|(refine qe ?_;clear hM;intro g W hM))
    all_goals
     go_roundw
     case rel=>exact⟨k+1,T.co,tv x ak,T.bx,T.b_y,BA,ts++[{T with n:=(k:Int)}],by omega,by omega,by simp;omega,rfl,by rw[HU.out],by go_num,hco2,hup,hide (TU HOA rfl),HNX,yI (yI (yI hM))⟩
     case measure=>simp[intOf];omega
   )
  ·have HE:=hide (rO qg HR.out);go_wp2_with(first|(refine qe ?_;clear hM;intro g W hM));go_ret3;exact⟨_,B,by rw[HE.out];rfl,by rw[HE.out];exact HO.out,yI (yI (yI hM))⟩
open Go.ChangeShapes Go.WideShapes Go.ChangeAt Go.RowKit Go.Deep
theorem mC{α:Type} [Inhabited α]{n:Nat}{p:Nat→α→Prop}(h:∀i,i<n→∃x,p i x):∃f:Nat→α,∀i,i<n→p i (f i):=by
 refine⟨fun i=>if hi:i<n then Classical.choose (h i hi)else default,fun i hi=> ?_⟩;simp only[dif_pos hi];exact Classical.choose_spec (h i hi)
theorem Pj(a:Addr)(i j:Nat):(a.add i).add j=a.add (i+j):=by
 unfold Addr.add;rcases a with⟨b,o,s⟩;split<;>split<;>(try split)<;>simp_all<;>omega
theorem bG:Tryz.prog.cellsOf 4=1:=qM
theorem bH:Tryz.prog.cellsOf 60=13:=qM
theorem bI:Tryz.prog.cellsOf 26=2:=qM
theorem bJ:Tryz.prog.cellsOf 61=1:=qM
theorem bK:Tryz.prog.cellsOf 9=1:=qM
theorem bL:Tryz.prog.cellsOf 58=1:=qM
theorem bM:Tryz.prog.cellsOf 5=1:=qM
theorem bN:Tryz.prog.cellsOf 55=2:=qM
theorem bO:Tryz.prog.cellsOf 2=1:=qM
theorem bP:Tryz.prog.cellsOf 3=1:=qM
theorem vH:Tryz.prog.cellsOf 63=20:=qM
theorem vQ:Tryz.prog.cellsOf 22=1:=qM
theorem vR:Tryz.prog.cellsOf 24=4:=qM
section
variable{H:Type}{enc:TypeId×Value→H}{W:World}{base:Nat}{sp:Nat→Bool}{held:Bool}{m:Nat}
theorem Ku{t:TypeId}(ht:Tryz.prog.underlying t=some (.int .i64)){c:Value}{y:DataW H×List MemPlace}(h:DataW.trod enc Tryz.prog W base sp held m t [c]=some y):∃n:Int,c=Iv n∧qz n:=by
 obtain⟨n,hn,_,hw⟩:=DataW.trod_int ht h;injection hn with hn;refine⟨n,hn,?_⟩;simp[Lit.wf,IntKind.has,IntKind.min,IntKind.max,IntKind.signed,IntKind.bits]at hw;unfold qz;omega
theorem RQ{t:TypeId}(ht:Tryz.prog.underlying t=some (.int .u8)){c:Value}{y:DataW H×List MemPlace}(h:DataW.trod enc Tryz.prog W base sp held m t [c]=some y):∃n:Int,c= .int .u8 n∧0≤n∧n≤255:=by
 obtain⟨n,hn,_,hw⟩:=DataW.trod_int ht h;injection hn with hn;refine⟨n,hn,?_⟩;simp[Lit.wf,IntKind.has,IntKind.min,IntKind.max,IntKind.signed,IntKind.bits]at hw;omega
theorem EG{t:TypeId}(ht:Tryz.prog.underlying t=some .bool){c:Value}{y:DataW H×List MemPlace}(h:DataW.trod enc Tryz.prog W base sp held m t [c]=some y):∃n:Bool,c= .bool n∧True:=by
 obtain⟨n,hn,_⟩:=DataW.trod_bool ht h;injection hn with hn;exact⟨n,hn,trivial⟩
theorem Pk{t:TypeId}(ht:Tryz.prog.underlying t=some .string){c:Value}{y:DataW H×List MemPlace}(h:DataW.trod enc Tryz.prog W base sp held m t [c]=some y):∃n:ByteArray,c= .string n∧n.size≤maxLen:=by
 obtain⟨n,hn,_,hw⟩:=DataW.trod_string ht h;injection hn with hn;exact⟨n,hn,hw⟩
theorem Cp{c0 c1:Value}{y:DataW H×List MemPlace}(h:DataW.trod enc Tryz.prog W base sp held m 26 [c0,c1]=some y):∃(v0:Int) (v1:Int),(c0=Iv v0∧qz v0)∧(c1=Iv v1∧qz v1):=by
 obtain⟨xs,n,_,_,hl,hxl,hf⟩:=DataW.trod_struct Tryz.underlying26 h;have key:∀i,i<2→∃y,xs[i]? =some y:=fun i hi=>⟨_,List.getElem?_eq_getElem (by rw[hxl];exact hi)⟩
 obtain⟨y0,e0⟩:=key 0 qG
 have g0:DataW.trod enc Tryz.prog W base sp held n 2 [c0]=some y0:=by
  have:=hf 0 _ rfl;rw[e0]at this;simpa[bG,bH,bI,bJ,bK,bL,bM,bN,bO,bP,vH,vQ,vR]using this
 obtain⟨v0,h0⟩:=Ku Tryz.underlying2 g0;obtain⟨y1,e1⟩:=key 1 qG
 have g1:DataW.trod enc Tryz.prog W base sp held n 2 [c1]=some y1:=by
  have:=hf 1 _ rfl;rw[e1]at this;simpa[bG,bH,bI,bJ,bK,bL,bM,bN,bO,bP,vH,vQ,vR]using this
 obtain⟨v1,h1⟩:=Ku Tryz.underlying2 g1;exact⟨v0,v1,h0,h1⟩
theorem EH{c0 c1:Value}{y:DataW H×List MemPlace}(h:DataW.trod enc Tryz.prog W base sp held m 55 [c0,c1]=some y):∃(v0:Int) (v1:Int),(c0=Iv v0∧qz v0)∧(c1=Iv v1∧qz v1):=by
 obtain⟨xs,n,_,_,hl,hxl,hf⟩:=DataW.trod_struct Tryz.underlying55 h;have key:∀i,i<2→∃y,xs[i]? =some y:=fun i hi=>⟨_,List.getElem?_eq_getElem (by rw[hxl];exact hi)⟩
 obtain⟨y0,e0⟩:=key 0 qG
 have g0:DataW.trod enc Tryz.prog W base sp held n 2 [c0]=some y0:=by
  have:=hf 0 _ rfl;rw[e0]at this;simpa[bG,bH,bI,bJ,bK,bL,bM,bN,bO,bP,vH,vQ,vR]using this
 obtain⟨v0,h0⟩:=Ku Tryz.underlying2 g0;obtain⟨y1,e1⟩:=key 1 qG
 have g1:DataW.trod enc Tryz.prog W base sp held n 2 [c1]=some y1:=by
  have:=hf 1 _ rfl;rw[e1]at this;simpa[bG,bH,bI,bJ,bK,bL,bM,bN,bO,bP,vH,vQ,vR]using this
 obtain⟨v1,h1⟩:=Ku Tryz.underlying2 g1;exact⟨v0,v1,h0,h1⟩
theorem EI{c0 c1 c2 c3 c4 c5 c6 c7 c8 c9 c10 c11 c12:Value}{y:DataW H×List MemPlace}(h:DataW.trod enc Tryz.prog W base sp held m 60 [c0,c1,c2,c3,c4,c5,c6,c7,c8,c9,c10,c11,c12]=some y):∃(v0:Int) (v1:ByteArray) (v2:ByteArray) (v3:Int) (v4:Bool) (v5:Int) (v6:Int) (v7:Int) (v8:Int) (v9:Int) (v10:Int) (v11:Int) (v12:Int),(c0= .int .u8 v0∧0≤v0∧v0≤255)∧(c1= .string v1∧v1.size≤maxLen)∧(c2= .string v2∧v2.size≤maxLen)∧(c3= .int .u8 v3∧0≤v3∧v3≤255)∧(c4= .bool v4∧True)∧(c5=Iv v5∧qz v5)∧(c6=Iv v6∧qz v6)∧(c7=Iv v7∧qz v7)∧(c8=Iv v8∧qz v8)∧(c9=Iv v9∧qz v9)∧(c10=Iv v10∧qz v10)∧(c11=Iv v11∧qz v11)∧(c12=Iv v12∧qz v12):=by
 obtain⟨xs,n,_,_,hl,hxl,hf⟩:=DataW.trod_struct Tryz.underlying60 h;have key:∀i,i<12→∃y,xs[i]? =some y:=fun i hi=>⟨_,List.getElem?_eq_getElem (by rw[hxl];exact hi)⟩
 obtain⟨y0,e0⟩:=key 0 qG
 have g0:DataW.trod enc Tryz.prog W base sp held n 58 [c0]=some y0:=by
  have:=hf 0 _ rfl;rw[e0]at this;simpa[bG,bH,bI,bJ,bK,bL,bM,bN,bO,bP,vH,vQ,vR]using this
 obtain⟨v0,h0⟩:=RQ Tryz.underlying58 g0;obtain⟨y1,e1⟩:=key 1 qG
 have g1:DataW.trod enc Tryz.prog W base sp held n 9 [c1]=some y1:=by
  have:=hf 1 _ rfl;rw[e1]at this;simpa[bG,bH,bI,bJ,bK,bL,bM,bN,bO,bP,vH,vQ,vR]using this
 obtain⟨v1,h1⟩:=Pk Tryz.underlying9 g1;obtain⟨y2,e2⟩:=key 2 qG
 have g2:DataW.trod enc Tryz.prog W base sp held n 9 [c2]=some y2:=by
  have:=hf 2 _ rfl;rw[e2]at this;simpa[bG,bH,bI,bJ,bK,bL,bM,bN,bO,bP,vH,vQ,vR]using this
 obtain⟨v2,h2⟩:=Pk Tryz.underlying9 g2;obtain⟨y3,e3⟩:=key 3 qG
 have g3:DataW.trod enc Tryz.prog W base sp held n 5 [c3]=some y3:=by
  have:=hf 3 _ rfl;rw[e3]at this;simpa[bG,bH,bI,bJ,bK,bL,bM,bN,bO,bP,vH,vQ,vR]using this
 obtain⟨v3,h3⟩:=RQ Tryz.underlying5 g3;obtain⟨y4,e4⟩:=key 4 qG
 have g4:DataW.trod enc Tryz.prog W base sp held n 4 [c4]=some y4:=by
  have:=hf 4 _ rfl;rw[e4]at this;simpa[bG,bH,bI,bJ,bK,bL,bM,bN,bO,bP,vH,vQ,vR]using this
 obtain⟨v4,h4⟩:=EG Tryz.underlying4 g4;obtain⟨y5,e5⟩:=key 5 qG
 have g5:DataW.trod enc Tryz.prog W base sp held n 2 [c5]=some y5:=by
  have:=hf 5 _ rfl;rw[e5]at this;simpa[bG,bH,bI,bJ,bK,bL,bM,bN,bO,bP,vH,vQ,vR]using this
 obtain⟨v5,h5⟩:=Ku Tryz.underlying2 g5;obtain⟨y6,e6⟩:=key 6 qG
 have g6:DataW.trod enc Tryz.prog W base sp held n 2 [c6]=some y6:=by
  have:=hf 6 _ rfl;rw[e6]at this;simpa[bG,bH,bI,bJ,bK,bL,bM,bN,bO,bP,vH,vQ,vR]using this
 obtain⟨v6,h6⟩:=Ku Tryz.underlying2 g6;obtain⟨y7,e7⟩:=key 7 qG
 have g7:DataW.trod enc Tryz.prog W base sp held n 2 [c7]=some y7:=by
  have:=hf 7 _ rfl;rw[e7]at this;simpa[bG,bH,bI,bJ,bK,bL,bM,bN,bO,bP,vH,vQ,vR]using this
 obtain⟨v7,h7⟩:=Ku Tryz.underlying2 g7;obtain⟨y8,e8⟩:=key 8 qG
 have g8:DataW.trod enc Tryz.prog W base sp held n 2 [c8]=some y8:=by
  have:=hf 8 _ rfl;rw[e8]at this;simpa[bG,bH,bI,bJ,bK,bL,bM,bN,bO,bP,vH,vQ,vR]using this
 obtain⟨v8,h8⟩:=Ku Tryz.underlying2 g8;obtain⟨y9,e9⟩:=key 9 qG
 have g9:DataW.trod enc Tryz.prog W base sp held n 55 [c9,c10]=some y9:=by
  have:=hf 9 _ rfl;rw[e9]at this;simpa[bG,bH,bI,bJ,bK,bL,bM,bN,bO,bP,vH,vQ,vR]using this
 obtain⟨v9,v10,h9,h10⟩:=EH g9;obtain⟨y10,e10⟩:=key 10 qG
 have g10:DataW.trod enc Tryz.prog W base sp held n 2 [c11]=some y10:=by
  have:=hf 10 _ rfl;rw[e10]at this;simpa[bG,bH,bI,bJ,bK,bL,bM,bN,bO,bP,vH,vQ,vR]using this
 obtain⟨v11,h11⟩:=Ku Tryz.underlying2 g10;obtain⟨y11,e11⟩:=key 11 qG
 have g11:DataW.trod enc Tryz.prog W base sp held n 2 [c12]=some y11:=by
  have:=hf 11 _ rfl;rw[e11]at this;simpa[bG,bH,bI,bJ,bK,bL,bM,bN,bO,bP,vH,vQ,vR]using this
 obtain⟨v12,h12⟩:=Ku Tryz.underlying2 g11;exact⟨v0,v1,v2,v3,v4,v5,v6,v7,v8,v9,v10,v11,v12,h0,h1,h2,h3,h4,h5,h6,h7,h8,h9,h10,h11,h12⟩
theorem EJ{c0 c1 c2 c3 c4 c5 c6 c7 c8 c9 c10 c11 c12 c13 c14 c15 c16 c17 c18 c19:Value}{y:DataW H×List MemPlace}(h:DataW.trod enc Tryz.prog W base sp held m 63 [c0,c1,c2,c3,c4,c5,c6,c7,c8,c9,c10,c11,c12,c13,c14,c15,c16,c17,c18,c19]=some y):∃(v0:Bool) (v1:Int) (v2:ByteArray) (v3:ByteArray) (v4:Int) (v5:Bool) (v6:Int) (v7:Int) (v8:Int) (v9:Int) (v10:Int) (v11:Int) (v12:Int) (v13:Int) (v14:Int) (v15:Int) (v16:Int) (v17:Int) (v18:Int) (v19:ByteArray),(c0= .bool v0∧True)∧(c1= .int .u8 v1∧0≤v1∧v1≤255)∧(c2= .string v2∧v2.size≤maxLen)∧(c3= .string v3∧v3.size≤maxLen)∧(c4= .int .u8 v4∧0≤v4∧v4≤255)∧(c5= .bool v5∧True)∧(c6=Iv v6∧qz v6)∧(c7=Iv v7∧qz v7)∧(c8=Iv v8∧qz v8)∧(c9=Iv v9∧qz v9)∧(c10=Iv v10∧qz v10)∧(c11=Iv v11∧qz v11)∧(c12=Iv v12∧qz v12)∧(c13=Iv v13∧qz v13)∧(c14=Iv v14∧qz v14)∧(c15=Iv v15∧qz v15)∧(c16=Iv v16∧qz v16)∧(c17=Iv v17∧qz v17)∧(c18= .int .u8 v18∧0≤v18∧v18≤255)∧(c19= .string v19∧v19.size≤maxLen):=by
 obtain⟨xs,n,_,_,hl,hxl,hf⟩:=DataW.trod_struct Tryz.underlying63 h;have key:∀i,i<6→∃y,xs[i]? =some y:=fun i hi=>⟨_,List.getElem?_eq_getElem (by rw[hxl];exact hi)⟩
 obtain⟨y0,e0⟩:=key 0 qG
 have g0:DataW.trod enc Tryz.prog W base sp held n 4 [c0]=some y0:=by
  have:=hf 0 _ rfl;rw[e0]at this;simpa[bG,bH,bI,bJ,bK,bL,bM,bN,bO,bP,vH,vQ,vR]using this
 obtain⟨v0,h0⟩:=EG Tryz.underlying4 g0;obtain⟨y1,e1⟩:=key 1 qG
 have g1:DataW.trod enc Tryz.prog W base sp held n 60 [c1,c2,c3,c4,c5,c6,c7,c8,c9,c10,c11,c12,c13]=some y1:=by
  have:=hf 1 _ rfl;rw[e1]at this;simpa[bG,bH,bI,bJ,bK,bL,bM,bN,bO,bP,vH,vQ,vR]using this
 obtain⟨v1,v2,v3,v4,v5,v6,v7,v8,v9,v10,v11,v12,v13,h1,h2,h3,h4,h5,h6,h7,h8,h9,h10,h11,h12,h13⟩:=EI g1;obtain⟨y2,e2⟩:=key 2 qG
 have g2:DataW.trod enc Tryz.prog W base sp held n 26 [c14,c15]=some y2:=by
  have:=hf 2 _ rfl;rw[e2]at this;simpa[bG,bH,bI,bJ,bK,bL,bM,bN,bO,bP,vH,vQ,vR]using this
 obtain⟨v14,v15,h14,h15⟩:=Cp g2;obtain⟨y3,e3⟩:=key 3 qG
 have g3:DataW.trod enc Tryz.prog W base sp held n 26 [c16,c17]=some y3:=by
  have:=hf 3 _ rfl;rw[e3]at this;simpa[bG,bH,bI,bJ,bK,bL,bM,bN,bO,bP,vH,vQ,vR]using this
 obtain⟨v16,v17,h16,h17⟩:=Cp g3;obtain⟨y4,e4⟩:=key 4 qG
 have g4:DataW.trod enc Tryz.prog W base sp held n 61 [c18]=some y4:=by
  have:=hf 4 _ rfl;rw[e4]at this;simpa[bG,bH,bI,bJ,bK,bL,bM,bN,bO,bP,vH,vQ,vR]using this
 obtain⟨v18,h18⟩:=RQ Tryz.underlying61 g4;obtain⟨y5,e5⟩:=key 5 qG
 have g5:DataW.trod enc Tryz.prog W base sp held n 9 [c19]=some y5:=by
  have:=hf 5 _ rfl;rw[e5]at this;simpa[bG,bH,bI,bJ,bK,bL,bM,bN,bO,bP,vH,vQ,vR]using this
 obtain⟨v19,h19⟩:=Pk Tryz.underlying9 g5;exact⟨v0,v1,v2,v3,v4,v5,v6,v7,v8,v9,v10,v11,v12,v13,v14,v15,v16,v17,v18,v19,h0,h1,h2,h3,h4,h5,h6,h7,h8,h9,h10,h11,h12,h13,h14,h15,h16,h17,h18,h19⟩
theorem Pm{cs:List Value}{y:DataW H×List MemPlace}(h:DataW.trod enc Tryz.prog W base sp held m 63 cs=some y)(hl:cs.length=20):∃x:En,cs=x.cells∧Cd x:=by
 obtain⟨c0,c1,c2,c3,c4,c5,c6,c7,c8,c9,c10,c11,c12,c13,c14,c15,c16,c17,c18,c19,rfl⟩:=Es hl;obtain⟨v0,v1,v2,v3,v4,v5,v6,v7,v8,v9,v10,v11,v12,v13,v14,v15,v16,v17,v18,v19,⟨rfl,h0⟩,⟨rfl,h1⟩,⟨rfl,h2⟩,⟨rfl,h3⟩,⟨rfl,h4⟩,⟨rfl,h5⟩,⟨rfl,h6⟩,⟨rfl,h7⟩,⟨rfl,h8⟩,⟨rfl,h9⟩,⟨rfl,h10⟩,⟨rfl,h11⟩,⟨rfl,h12⟩,⟨rfl,h13⟩,⟨rfl,h14⟩,⟨rfl,h15⟩,⟨rfl,h16⟩,⟨rfl,h17⟩,⟨rfl,h18⟩,⟨rfl,h19⟩⟩:=EJ h;exact⟨⟨v0,v1,v2,v3,v4,v5,v6,v7,v8,v9,v10,v11,v12,v13,v14,v15,v16,v17,v18,v19⟩,rfl,⟨⟨⟨h1,h4,h2,h3⟩,h6,h14,h15⟩,h7,h8,h9,h10,h11,h12,h13,h16,h17,h18,h19⟩⟩
end
theorem Dx{H:Type}{enc:TypeId×Value→H}{W:World}{held:Bool}{v:Value}{d:DataW H}{ps:List MemPlace}(h:DataW.Trod enc Tryz.prog W 0 (fun _=>true) held 24 v d ps)(hv:∃c0 c1 c2 c3,v= .agg #[c0,c1,c2,c3]):
 ∃(pa pb:ByteArray) (S:Option Addr) (l:List En) (cap:Nat) (act:Int),v= .agg #[.string pa,.string pb,.slice S l.length cap,Iv act]∧pa.size≤maxLen∧pb.size≤maxLen∧l.length≤9223372036854775807∧qz act∧Ys W S l∧∀(k:Nat) (x:En),l[k]? =some x→Cd x:=by
 obtain⟨c0,c1,c2,c3,rfl⟩:=hv;obtain⟨fuel,h⟩:=h;have h:DataW.trod enc Tryz.prog W 0 (fun _=>true) held fuel 24 [c0,c1,c2,c3]=some (d,ps):=h;obtain⟨xs,n,_,_,hl,hxl,hf⟩:=DataW.trod_struct Tryz.underlying24 h;have key:∀i,i<4→∃y,xs[i]? =some y:=fun i hi=>⟨_,List.getElem?_eq_getElem (by rw[hxl];exact hi)⟩
 obtain⟨y0,e0⟩:=key 0 qG
 have g0:DataW.trod enc Tryz.prog W 0 (fun _=>true) held n 9 [c0]=some y0:=by
  have:=hf 0 _ rfl;rw[e0]at this;simpa[bG,bH,bI,bJ,bK,bL,bM,bN,bO,bP,vH,vQ,vR]using this
 obtain⟨y1,e1⟩:=key 1 qG
 have g1:DataW.trod enc Tryz.prog W 0 (fun _=>true) held n 9 [c1]=some y1:=by
  have:=hf 1 _ rfl;rw[e1]at this;simpa[bG,bH,bI,bJ,bK,bL,bM,bN,bO,bP,vH,vQ,vR]using this
 obtain⟨y2,e2⟩:=key 2 qG
 have g2:DataW.trod enc Tryz.prog W 0 (fun _=>true) held n 22 [c2]=some y2:=by
  have:=hf 2 _ rfl;rw[e2]at this;simpa[bG,bH,bI,bJ,bK,bL,bM,bN,bO,bP,vH,vQ,vR]using this
 obtain⟨y3,e3⟩:=key 3 qG
 have g3:DataW.trod enc Tryz.prog W 0 (fun _=>true) held n 3 [c3]=some y3:=by
  have:=hf 3 _ rfl;rw[e3]at this;simpa[bG,bH,bI,bJ,bK,bL,bM,bN,bO,bP,vH,vQ,vR]using this
 obtain⟨pa,rfl,ha⟩:=Pk Tryz.underlying9 g0;obtain⟨pb,rfl,hb⟩:=Pk Tryz.underlying9 g1;obtain⟨act,rfl,hc⟩:=Ku Tryz.underlying3 g3;rcases open_slice Tryz.underlying22 g2 with⟨hc2,_⟩|⟨a,ln,cap,mm,k,D,Pl,hc2,_,hlc,hcm,hmm,_,hall⟩
 ·injection hc2 with hc2;subst hc2;exact⟨pa,pb,none,[],0,act,rfl,ha,hb,by simp,hc,fun k x hx=>by simp at hx,fun k x hx=>by simp at hx⟩
 ·injection hc2 with hc2;subst hc2;have hm:mm=cap:=by simpa using hmm
  subst hm
  have hall':∀i,i<ln→∃cs',W.cells? 0 (a.add (i*20)) 20=some cs'∧DataW.trod enc Tryz.prog W 0 (fun _=>true) held k 63 cs'=some (D i,Pl i):=by
   intro i hi;have:=hall i qg;rw[vH]at this;exact this
  clear hall
  have flat:∀i,i<ln→a.3=none:=by
   intro i hi;obtain⟨cs0,q1,q2⟩:=hall' 0 qg;obtain⟨_,ql,qc⟩:=World.cells?_some q1;obtain⟨x0,rfl,_⟩:=Pm q2 ql;have q0:=qc 0 qG;have hs:=World.cell?_spot q0;obtain⟨b,o,spot⟩:=a;simpa[Addr.add]using hs
  have each:∀i,i<ln→∃x:En,Cd x∧∃b o,a=⟨b,o,none⟩∧xA W b (o+i*20) x:=by
   intro i hi;obtain⟨cs',h1,h2⟩:=hall' i hi;obtain⟨_,hlen,hcell⟩:=World.cells?_some h1;obtain⟨x,rfl,hx⟩:=Pm h2 hlen;have hs:=flat i hi;obtain⟨b,o,spot⟩:=a;dsimp only at hs;subst hs;refine⟨x,hx,b,o,rfl,fun j v hj=> ?_⟩
   have hj20:j<20:=by
    have:=(List.getElem?_eq_some_iff.1 hj).1;simpa[En.cells]using this
   have h3:=hcell j hj20;have ad:((⟨b,o,none⟩:Addr).add (i*20)).add j=⟨b,o+i*20+j,none⟩:=by rw[Pj,Addr.add_lit,Nat.add_assoc]
   rw[ad]at h3;rw[h3];obtain⟨hj2,rfl⟩:=List.getElem?_eq_some_iff.1 hj;simp
  have fam:∃l:List En,l.length=ln∧∀i x,l[i]? =some x→Cd x∧∃b o,a=⟨b,o,none⟩∧xA W b (o+i*20) x:=by
   haveI:Inhabited En:=⟨Kf⟩
   obtain⟨f,hf'⟩:=mC each;refine⟨(List.range ln).map f,by simp,fun i x hx=> ?_⟩
   have hi:i<ln:=by
    have:=(List.getElem?_eq_some_iff.1 hx).1;simpa using this
   rw[List.getElem?_map,List.getElem?_range hi]at hx;injection hx with hx;subst hx;exact hf' i hi
  obtain⟨l,rfl,hl2⟩:=fam;refine⟨pa,pb,some a,l,mm,act,rfl,ha,hb,?_,hc,fun k x hx=> ?_,fun k x hx=>(hl2 k x hx).1⟩
  ·unfold maxLen at hcm;omega
  ·obtain⟨_,b,o,rfl,h2⟩:=hl2 k x hx;exact⟨b,o,rfl,h2⟩
end Go.Proofs.YtiegohjobhehcaaGreatDoor
