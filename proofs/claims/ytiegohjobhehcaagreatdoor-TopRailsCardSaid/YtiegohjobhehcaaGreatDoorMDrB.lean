/-
  path.Build for all plans, by boxes.
-/
import Derived.Test.YtiegohjobhehcaaGreatDoorMDrT
import Derived.Test.YtiegohjobhehcaaGreatDoorMTrks
namespace Go.Proofs.YtiegohjobhehcaaGreatDoor
open Go.RowKit
set_option linter.unusedVariables false
set_option linter.unusedSimpArgs false
theorem VB{e:TypeId}{size:Nat}{v:Value}{n:Nat}{xs:List Value}{B:List qZ}(h:bZ e size v n xs B):∃S cap,v= .slice S n cap:=by
 cases h with
 |nil=>exact⟨none,0,rfl⟩
 | @row g cap n cur xs _ _ _ _ _=>exact⟨_,cap,rfl⟩
theorem Nn{w W:World}{B R:List qZ}(h:qF w W (B++R)):qF w W B:=Ga (qW h List.perm_append_comm)
theorem wB(a b c d e:qZ)(Bt:List qZ):(e::(Bt++[a,b,c,d])).Perm (a::b::c::d::e::([]++Bt)):=
 ((List.Perm.cons e List.perm_append_comm).trans (List.perm_middle (l₁:=[a,b,c,d]) (l₂:=Bt) (a:=e)).symm)
theorem Np{e:TypeId}{size:Nat}{v:Value}{n:Nat}{xs:List Value}{B:List qZ}(h:bZ e size v n xs B)(h0:0<n):∃g cap cur,v= .slice (some ⟨g,0,none⟩) n cap∧B=[(g,cur,e)]∧cur.take (n*size)=xs:=by
 cases h with
 |nil=>omega
 |row a b c e g=>exact⟨_,_,_,rfl,rfl,e⟩
theorem fC(e t a b c d D:qZ)(B:List qZ):(e::t::a::b::c::d::D::B).Perm (e::a::b::c::d::D::(B++[t])):= .cons _ (List.perm_append_comm (l₁:=a::b::c::d::D::B) (l₂:=[t])).symm
theorem eE{w W:World}{e:qZ}{g:Nat}{c cur:List Value}{t:TypeId}{L:List qZ}(hM:qF w W (e::(g,c,t)::L))(h:cur=c):qF w W (e::(g,cur,t)::L):=by rw[h];exact hM
theorem Fc{e:TypeId}{size g cap n:Nat}{cur cur' xs xs':List Value}(h:bZ e size (.slice (some ⟨g,0,none⟩) n cap) n xs [(g,cur,e)])(hl:cur'.length=cur.length)(ht:cur'.take (n*size)=xs')(hx:xs'.length=n*size):bZ e size (.slice (some ⟨g,0,none⟩) n cap) n xs' [(g,cur',e)]:=by
 cases h with
 |row a b c d=>exact .row a b (hl.trans c) ht hx
theorem Nq{pre post:List Value}{x y:Tk}:(pre++mid x.cells post).length=(pre++mid y.cells post).length:=by
 unfold mid;rw[List.length_append,List.length_append,List.length_append,List.length_append,gN,gN]
theorem wC(a b c d e t:qZ)(B:List qZ):(a::b::c::d::e::(B++[t])).Perm (t::a::b::c::d::e::B):=
 List.perm_append_comm (l₁:=a::b::c::d::e::B) (l₂:=[t])
set_option maxRecDepth 100000 in
set_option maxHeartbeats 8000000 in
theorem fD(pa pb:ByteArray)(S:Option Addr)(l:List En)(cap:Nat)(act fx fy c spd bank oalt gr:Int)(w:World)(ha:pa.size≤maxLen)(hb:pb.size≤maxLen)(hp:Hid (Ys w S l))(hxs:Hid (∀(k:Nat) (x:En),l[k]? =some x→Cd x))(hc:qz c)(ho:qz oalt)(hu:Hid (yE w)):
 Calls Tryz.prog 5 #[.agg #[.string pa,.string pb,.slice S l.length cap,Iv act],.agg #[Iv fx,Iv fy],Iv c,.agg #[Iv spd,Iv bank,Iv oalt,Iv gr]] w fun e w'=>∃(V:Value) (len:Int) (B:List qZ),e= .returned (.tuple #[.agg #[V,Iv len],Iv (uk l fx fy (ZF spd bank) (zV pa pb l act fx fy c spd bank oalt gr)).2.1,Iv (uk l fx fy (ZF spd bank) (zV pa pb l act fx fy c spd bank oalt gr)).2.2])∧
  tO V (uk l fx fy (ZF spd bank) (zV pa pb l act fx fy c spd bank oalt gr)).1 B 1000∧len=vW (uk l fx fy (ZF spd bank) (zV pa pb l act fx fy c spd bank oalt gr)).1∧qF w w' B:=by
 have TR:=fun W h1 h2=>mA pa pb S l cap act fx fy c spd bank oalt gr W ha hb h1 hxs hc ho h2
 obtain⟨T,hT⟩:∃T,zV pa pb l act fx fy c spd bank oalt gr=T:=⟨_,rfl⟩;rw[hT]at TR;rw[hT];have HT:=hide hT;clear hT;have RD:=fun W=>DD spd bank W
 obtain⟨R,hR⟩:∃R,ZF spd bank=R:=⟨_,rfl⟩;rw[hR]at RD;rw[hR];have HR:=hide hR;clear hR;obtain⟨Q,hQ⟩:∃Q,uk l fx fy R T=Q:=⟨_,rfl⟩;rw[hQ];have HQ:=hide hQ;clear hQ;have hM:=qo w;go_enter Tryz.func5,Tryz.ntmps5;go_upto_region 0 with fail;refine qj ?_;go_cut [8,7,5,4] (fun s8 s7 s5 s4 wx=>∃gR gO gF gP:Nat,s8= .pointer (some ⟨gR,0,none⟩)∧s7= .pointer (some ⟨gO,0,none⟩)∧s5= .pointer (some ⟨gF,0,none⟩)∧s4= .pointer (some ⟨gP,0,none⟩)∧qF w wx [(gR,[.slice none 0 0,Iv 0],46),(gO,[Iv spd,Iv bank,Iv oalt,Iv gr],28),(gF,[Iv fx,Iv fy],26),(gP,[.string pa,.string pb,.slice S l.length cap,Iv act],24)])
 case first=>
  go_wp2_with(first|(refine qe ?_;clear hM;intro g W hM))
  all_goals
   go_meet;exact⟨_,_,_,_,rfl,rfl,rfl,rfl,hM⟩
 case rest=>
 clear hM;obtain⟨gR,gO,gF,gP,rfl,rfl,rfl,rfl,hM⟩:=hcut;go_upto_region 1 with(first|(refine qe ?_;clear hM;intro g W hM));refine qj ?_;go_upto_region 2 with(first|(refine qe ?_;clear hM;intro g W hM)|(go_at_call 11;refine(TR _ (hide (uw hM hp.out)) (hide (qP hM hu.out))).mono ?_;rintro e0 W1 ⟨Vt,Bt,rfl,hOt,hMt⟩;replace hM:=uy hM hMt;clear hMt));by_cases h1:T.2.2=0;rotate_left 1
 ·have HB:=hide (show Q=([],T.2) by rw[←HQ.out];unfold uk;rw[if_pos h1]);have h2:(T.2.2 !=0)=true:=by simpa using h1
  clear h1 HQ;go_wp2_with(first|(refine qe ?_;clear hM;intro g W hM))
  all_goals
   (refine' uq hM rfl rfl Tryz.isAgg46 Tryz.sizeOf46 rfl rfl rfl ?_ ?_ ⟨.slice none 0 0,0,[],?_,?_,?_,?_⟩;rotate_left 2;(·repeat constructor);(·rfl);(·rw[HB.out];rfl);(·rw[HB.out];exact jN 1000);(·rw[HB.out];rfl);(·exact vq hM))
 have h2:(T.2.2 !=0)=false:=by simpa using h1
 go_upto_region 5 with(first|(refine qe ?_;clear hM;intro g W hM)|(refine qt (RD _) ?_;clear hM;intro W1 hM));by_cases h3:R.2=0;rotate_left 1
 ·have HB:=hide (show Q=([],0,R.2) by rw[←HQ.out];unfold uk;rw[if_neg (by rw[h1];simp),if_pos h3]);have h4:(R.2 !=0)=true:=by simpa using h3
  clear h1 h3 HQ;go_wp2_with(first|(refine qe ?_;clear hM;intro g W hM))
  all_goals
   (refine' uq hM rfl rfl Tryz.isAgg46 Tryz.sizeOf46 rfl rfl rfl ?_ ?_ ⟨.slice none 0 0,0,[],?_,?_,?_,?_⟩;rotate_left 2;(·repeat constructor);(·rfl);(·rw[HB.out];rfl);(·rw[HB.out];exact jN 1000);(·rw[HB.out];rfl);(·exact vq hM))
 have h4:(R.2 !=0)=false:=by simpa using h3
 obtain⟨rad,hrad⟩:∃rad,R.1=rad:=⟨_,rfl⟩
 have hr1:1≤rad∧rad≤8000000:=by
  rw[←hrad,←HR.out];exact Nh (by rw[HR.out];exact h3)
 have HQ0:=HQ
 have HQ2:=hide (show Q=(if(uE l rad true false ⟨[],fx,fy,false⟩ T.1).2.2≠0 then([],(uE l rad true false ⟨[],fx,fy,false⟩ T.1).2)else if((uE l rad true false ⟨[],fx,fy,false⟩ T.1).1.els.length:Int)>500 then([],0,3)else((uE l rad true false ⟨[],fx,fy,false⟩ T.1).1.els,0,0)) by
  rw[←HQ.out];unfold uk;rw[if_neg (by rw[h1];simp),if_neg (by rw[h3];simp),hrad]
  cases hts:T.1 with
  |nil=>rfl
  |cons x r=>rfl)
 obtain⟨CG,hCG⟩:∃CG,uE l rad true false ⟨[],fx,fy,false⟩ T.1=CG:=⟨_,rfl⟩;rw[hCG]at HQ2;have HCG:=hide hCG;have HC0:=HCG;simp only[hrad];clear HQ hCG hrad;obtain⟨Sx,capx,rfl⟩:=VB hOt;go_upto_region 9 with(first|(refine qe ?_;clear hM;intro g W hM));refine qj ?_;obtain⟨gd,rfl⟩:=uC hM;have hM2:=qW hM (wB _ _ _ _ _ Bt);clear hM;have hM:=hM2;clear hM2;have HB0:=hide (UK HT.out h1);have HN60:=hide (show T.1.length≤60 from wu HT.out);have HL60:=hide (show l.length≤60 from(Jo (xT (show(zV pa pb l act fx fy c spd bank oalt gr).2.2=0 by rw[HT.out];exact h1)).1).2);clear h1 h2 h3 h4;go_wp2_with fail;go_loopw [13,16,55] (fun s13 s16 s55 wx=>∃(k:Nat) (done:Bool) (d:Dw) (V:Value) (B Bt:List qZ) (ts:List Tk),k≤T.1.length∧ts.length=T.1.length∧s13=Iv 0∧s16= .bool done∧s55=Iv k∧Hid (uE l rad (decide (k=0)) done d (ts.drop k)=CG)∧Hid (∀t∈ts.drop k,Sq l t)∧Hid (d.els=[]→d.gp=false)∧Hid (bZ 91 15 (.slice Sx T.1.length capx) T.1.length (ts.flatMap Tk.cells) Bt)∧Hid (tO V d.els B (12*k))∧qF w wx ((gR,[.slice none 0 0,Iv 0],46)::(gO,[Iv spd,Iv bank,Iv oalt,Iv gr],28)::(gF,[Iv fx,Iv fy],26)::(gP,[.string pa,.string pb,.slice S l.length cap,Iv act],24)::(gd,bq V d rad,88)::(B++Bt))) (fun _ _ i _=>T.1.length-(intOf i).toNat)
 case atStart=>exact⟨0,false,⟨[],fx,fy,false⟩,.slice none 0 0,[],Bt,T.1,Nat.zero_le _,rfl,rfl,rfl,rfl,HCG,HB0,hide (fun _=>rfl),hide hOt,hide (jN 0),hM⟩
 case round=>
  clear hM hOt HB0 HCG;obtain⟨k,done,d,V,B,Bt,ts,hk,hts,rfl,rfl,rfl,HG,HB,HGP,HOt,hOk,hM⟩:=hrel;by_cases hlt:k<T.1.length
  ·obtain⟨x,hx⟩:∃x,ts[k]? =some x:=⟨_,List.getElem?_eq_getElem qg⟩;obtain⟨gT,capT,cur,hSx,rfl,hcur⟩:=Np HOt.out qg;simp only[Value.slice.injEq,true_and]at hSx;obtain⟨rfl,rfl⟩:=hSx;rw[←hts]at hcur;have HCU:=hide hcur;obtain⟨pre,post,hce,hpl,hset⟩:=KT hcur hx;have HPL:=hide hpl;have HX:=hide hx;have HCE:=hide hce;rw[hce]at hM;clear hcur hpl hset hx
   have hkd:ts.drop k=x::ts.drop (k+1):=by
    have:=HX.out;rw[List.getElem?_eq_some_iff]at this;obtain⟨h1,h2⟩:=this;rw[←h2];exact List.drop_eq_getElem_cons h1
   have HG1:=hide (show uE l rad (decide (k=0)) done d (x::ts.drop (k+1))=CG by rw[←hkd];exact HG.out);have hxl:Sq l x:=HB.out x (by rw[hkd];exact List.mem_cons_self);have HB1:=hide (show∀t∈ts.drop (k+1),Sq l t from fun t ht=>HB.out t (by rw[hkd];exact List.mem_cons_of_mem _ ht));have HXL:=hide hxl;clear hxl hkd HG HB hce;unfold Tk.cells at hM;replace hM:=qW hM (wC _ _ _ _ _ _ B);have hk60:k<60:=by have:=HN60.out;omega
   go_upto_region 13 with(first|((with_reducible refine lX ?_);first|refine aL hM rfl rfl ?_ (hv:=Zy HPL.out rfl)|refine aM hM rfl rfl ?_ (hC:=xk HPL.out (by((repeat constructor)<;>fail))))|(refine qe ?_;clear hM;intro g W hM));obtain⟨gx,rfl⟩:=uC hM;refine qj ?_;replace hM:=qW (eE hM HCE.out) (fC _ _ _ _ _ _ _ B);clear HPL HCE;obtain⟨hxb,jx,lx,hxn,hlx,hleg,hk3⟩:=HXL.out;obtain⟨b0,o0,rfl,hat⟩:=hp.out jx lx hlx;have HAT:=hide hat;have HXN:=hide hxn;have HLG:=hide (DN hxn hlx);have HK3:=hide hk3;have HLEG:=hide hleg;have HXB:=hide hxb;have hjx:jx<l.length:=(List.getElem?_eq_some_iff.1 hlx).1;clear hat hlx hleg hk3 hxb HXL;go_upto_region 14 with(first|((with_reducible refine lX ?_);refine yL hM rfl (by first|exact rfl|(go_simp;done)) rfl (Zg rfl) (Bp HAT.out) (bQ rfl) ?_)|(refine qe ?_;clear hM;intro g W hM));refine qj ?_;clear hxn;obtain⟨gl,rfl⟩:=uC hM;obtain⟨xg,hxg⟩:∃b,x.g=b:=⟨_,rfl⟩;rw[hxg]at hM;have HXG:=hide hxg;clear hxg;go_cut [79] (fun s wx=>∃b,s= .bool b∧Hid (b=(xg||(decide (k=0)&&decide (lx.ty=1))))∧qF w wx ((gl,[.int .u8 lx.ty,.string lx.fx,.string lx.ct,.int .u8 lx.tn,.bool lx.ov,Iv lx.crs,Iv lx.dst,Iv lx.rad,Iv lx.tht,Iv lx.lo,Iv lx.hi,Iv lx.spd,Iv lx.rnp],60)::(gx,(tX x.k x.ax x.ay x.bx x.b_y x.cx x.cy x.r x.f x.s x.ci x.co x.len x.n xg),91)::(gR,[.slice none 0 0,Iv 0],46)::(gO,[Iv spd,Iv bank,Iv oalt,Iv gr],28)::(gF,[Iv fx,Iv fy],26)::(gP,[.string pa,.string pb,.slice (some ⟨b0,o0,none⟩) l.length cap,Iv act],24)::(gd,bq V d rad,88)::(B++[(gT,cur,91)])))
   case first=>
    as_aux_lemma=>
     rcases xg with _|_
     ·by_cases hk0:k=0
      ·have e1:((k:Int)==0)=true:=by simp[hk0]
       have HE1:=hide hk0;clear hk0;go_wp2_with(first|(refine qe ?_;clear hM;intro g W hM))
       all_goals
        go_meet;exact⟨_,rfl,hide (by rw[decide_eq_true HE1.out,Bool.false_or,Bool.true_and];rfl),hM⟩
      ·have e1:((k:Int)==0)=false:=by simp[hk0]
       have HE1:=hide hk0;clear hk0;go_wp2_with(first|(refine qe ?_;clear hM;intro g W hM))
       all_goals
        go_meet;exact⟨_,rfl,hide (by rw[decide_eq_false HE1.out,Bool.false_or,Bool.false_and]),hM⟩
     ·go_wp2_with(first|(refine qe ?_;clear hM;intro g W hM))
      all_goals
       go_meet;exact⟨_,rfl,hide (by rw[Bool.true_or]),hM⟩
   case rest=>
   clear hM;obtain⟨b14,rfl,hb14,hM⟩:=hcut;obtain⟨d1,hd1⟩:∃d1,QG l (decide (k=0)) d x=d1:=⟨_,rfl⟩;have HD1:=hide hd1;have HGP1:Hid (BW d1):=hide (by rw[←hd1];exact Vy HGP.out);clear hd1;have hb14':Hid (b14=(x.g||(decide (k=0)&&decide ((vB l x).ty=1)))):=hide (by rw[HXG.out,HLG.out];exact hb14.out);go_upto_if 79 with(first|(refine qe ?_;clear hM;intro g W hM));go_cut [79] (fun s wx=>Hid (d1.els=d.els)∧qF w wx ((gl,[.int .u8 lx.ty,.string lx.fx,.string lx.ct,.int .u8 lx.tn,.bool lx.ov,Iv lx.crs,Iv lx.dst,Iv lx.rad,Iv lx.tht,Iv lx.lo,Iv lx.hi,Iv lx.spd,Iv lx.rnp],60)::(gx,(tX x.k x.ax x.ay x.bx x.b_y x.cx x.cy x.r x.f x.s x.ci x.co x.len x.n xg),91)::(gR,[.slice none 0 0,Iv 0],46)::(gO,[Iv spd,Iv bank,Iv oalt,Iv gr],28)::(gF,[Iv fx,Iv fy],26)::(gP,[.string pa,.string pb,.slice (some ⟨b0,o0,none⟩) l.length cap,Iv act],24)::(gd,bq V d1 rad,88)::(B++[(gT,cur,91)])))
   case first=>
    as_aux_lemma=>
     rcases b14 with _|_
     ·have e1:d1=d:=by rw[←HD1.out];exact Nk hb14'.out.symm
      subst e1;go_wp2_with(first|(refine qe ?_;clear hM;intro g W hM))
      all_goals
       go_meet;exact⟨hide (by first|trivial|rfl),hM⟩
     ·have e1:d1=⟨d.els,x.ax,x.ay,x.g&& !d.els.isEmpty⟩:=by rw[←HD1.out];exact aZ hb14'.out.symm
      obtain⟨Se,cape,rfl⟩:=VB hOk.out.1;rcases xg with _|_
      ·rw[HXG.out,Bool.false_and]at e1;subst e1;go_wp2_with(first|(refine qe ?_;clear hM;intro g W hM))
       all_goals
        go_meet;exact⟨hide (by first|trivial|rfl),hM⟩
      ·rw[HXG.out,Bool.true_and]at e1;by_cases he:d.els=[]
       ·have h0:d.els.length=0:=by rw[he];rfl
        have hg0:=HGP.out he;have e2:d1=⟨d.els,x.ax,x.ay,false⟩:=by rw[e1,he];rfl
        subst e2;clear e1 he;have k1:¬0<d.els.length:=qg;have k2:¬(0:Int)<d.els.length:=qg;clear h0;go_wp2_with(first|(refine qe ?_;clear hM;intro g W hM))
        all_goals
         go_meet;exact⟨hide (by first|trivial|rfl),hM⟩
       ·have h0:0<d.els.length:=List.length_pos_iff.2 he;have e2:d1=⟨d.els,x.ax,x.ay,true⟩:=by rw[e1,show d.els.isEmpty=false by simpa using he];rfl
        subst e2;clear e1 he;have k2:(0:Int)<d.els.length:=qg;go_wp2_with(first|(refine qe ?_;clear hM;intro g W hM))
        all_goals
         go_meet;exact⟨hide (by first|trivial|rfl),hM⟩
   case rest=>
   clear hM;obtain⟨hde,hM⟩:=hcut;have hO1:Hid (tO V d1.els B (12*k)):=hide (by rw[hde.out];exact hOk.out);obtain⟨d2,hd2⟩:∃d2,ko l (decide (k=0)) done d x=d2:=⟨_,rfl⟩;have HD2:=hide hd2;have HGP2:Hid (BW d2):=hide (by rw[←hd2];exact Nj HGP.out);clear hd2 hOk HGP HGP1 hde hb14 hb14';go_upto_if 105 with(first|(refine qe ?_;clear hM;intro g W hM));go_cut [105] (fun s wx=>∃V2 B2,Hid (tO V2 d2.els B2 (12*k+1))∧qF w wx ((gl,[.int .u8 lx.ty,.string lx.fx,.string lx.ct,.int .u8 lx.tn,.bool lx.ov,Iv lx.crs,Iv lx.dst,Iv lx.rad,Iv lx.tht,Iv lx.lo,Iv lx.hi,Iv lx.spd,Iv lx.rnp],60)::(gx,(tX x.k x.ax x.ay x.bx x.b_y x.cx x.cy x.r x.f x.s x.ci x.co x.len x.n xg),91)::(gR,[.slice none 0 0,Iv 0],46)::(gO,[Iv spd,Iv bank,Iv oalt,Iv gr],28)::(gF,[Iv fx,Iv fy],26)::(gP,[.string pa,.string pb,.slice (some ⟨b0,o0,none⟩) l.length cap,Iv act],24)::(gd,bq V2 d2 rad,88)::(B2++[(gT,cur,91)])))
   case first=>
    as_aux_lemma=>
     rcases done with _|_
     ·have e1:d2=yX d1 x.ax x.ay x.n:=by rw[←HD2.out,YZ,if_neg jL,HD1.out]
      go_wp2_with(first|(refine qe ?_;clear hM;intro g W hM)|(go_at_call 13;refine cD hM (fun R' hM'=>ZT x.ax x.ay x.n hM' hO1) ?_;clear hM hO1;intro d3 V1 B1 W1 hd3 hO3 hM;simp only[List.cons_append,List.nil_append]at hM))
      all_goals
       go_meet;have e2:d3=d2:=by rw[e1];exact hd3.out.symm
       subst e2;exact⟨V1,B1,hO3,hM⟩
     ·have e1:d2=d1:=by rw[←HD2.out,YZ,if_pos rfl,HD1.out]
      subst e1;go_wp2_with(first|(refine qe ?_;clear hM;intro g W hM))
      all_goals
       go_meet;exact⟨V,B,hide (QH hO1.out),hM⟩
   case rest=>
   clear hM hO1;obtain⟨V2,B2,hO2,hM⟩:=hcut;have HG2:=HG1.out;have HXc:=hide (show-129600000≤x.co∧x.co≤259200000 from by have:=HXB.out.crs.2;unfold Qo at this;omega);by_cases h2:x.k=2
   ·have HC:=hide (BQ (l:=l) (rad:=rad) (first:=decide (k=0)) (done:=done) (d:=d) (r:=ts.drop (k+1)) h2);have q2:(x.k==2)=true:=by simpa using h2
    clear h2 HG2
    as_aux_lemma=>
     go_wp2_with(first|(refine qe ?_;clear hM;intro g W hM)|(go_at_call 14;refine cD hM (fun R' hM'=>mU x.cx x.cy x.r x.f x.s x.bx x.b_y x.n hM' hO2) ?_;clear hM hO2;intro d3 V1 B1 W1 hd3 hO3 hM;simp only[List.cons_append,List.nil_append]at hM))
     all_goals
      (go_roundw
       case rel=>exact⟨k+1,false,d3,V1,B1,[(gT,cur,91)],ts,by omega,hts,rfl,rfl,by go_num,hide (by rw[←HG1.out,HC.out,HD2.out,hd3.out];rfl),HB1,hide (by rw[←hd3.out];exact Va HGP2.out _ _ _ _ _ _ _ _),HOt,hide ⟨hO3.out.1,Nat.le_trans hO3.out.2 qg⟩,qC (qC hM)⟩
       case measure=>simp[intOf];omega)
   by_cases h3:x.k=3
   ·have HTN:=hide (PX HLEG.out (PY (HK3.out h3) (mJ HLEG.out).2));have HCI:Hid (qz x.ci):=hide (by have:=HXB.out.crs.1;unfold Qo at this;unfold qz;omega);have HCR:Hid (qz lx.crs):=hide (by have:=BO HLEG.out;unfold qz;omega);have q2:(x.k==2)=false:=by simpa using h2
    have q3:(x.k==3)=true:=by simpa using h3
    obtain⟨E,hE⟩:∃E,(QA rad d2 lx x).1=E:=⟨_,rfl⟩;have HE:=hide hE;have HP0:=hide (show(QA rad (ko l (decide (k=0)) done d x) (vB l x) x).1=E by rw[HD2.out,HLG.out];exact hE);by_cases hE0:E=0
    ·subst hE0;have HC:=hide (BU (l:=l) (rad:=rad) (first:=decide (k=0)) (done:=done) (d:=d) (r:=ts.drop (k+1)) h3 HP0.out);clear h2 h3 HG2 hE
     as_aux_lemma=>
      go_wp2_with(first|(refine qe ?_;clear hM;intro g W hM)|(go_at_call 15;refine cD (v:=Iv 0) hM (fun R' hM'=>by have hP:=KV lx x hr1.1 hr1.2 HTN.out HCI.out HCR.out hM' hO2;rw[HE.out]at hP;(try unfold Tk.cX tX at hP);rw[HXG.out]at hP;exact hP) ?_;clear hM hO2;intro d3 V1 B1 W1 hd3 hO3 hM;simp only[List.cons_append,List.nil_append]at hM))
      all_goals
       (go_roundw
        case rel=>exact⟨k+1,false,d3,V1,B1,[(gT,cur,91)],ts,by omega,hts,rfl,rfl,by go_num,hide (by rw[←HG1.out,HC.out,HD2.out,HLG.out,hd3.out];rfl),HB1,hide (by rw[←hd3.out];exact CW HGP2.out),HOt,hide ⟨hO3.out.1,Nat.le_trans hO3.out.2 qg⟩,qC (qC hM)⟩
        case measure=>simp[intOf];omega)
    ·have HC:=hide (show CG=(d,x.n,E) by rw[←HG2,BS h3 (by rw[HP0.out];exact hE0),HP0.out]);have HB:=hide (show Q=([],x.n,E) by rw[HQ2.out,HC.out];exact if_pos hE0);have f1:(E !=0)=true:=by simpa using hE0
     clear h2 h3 HG2 hE hE0
     as_aux_lemma=>
      go_upto_region 30 with(first|(refine qe ?_;clear hM;intro g W hM)|(go_at_call 15;refine cD (v:=Iv E) hM (fun R' hM'=>by have hP:=KV lx x hr1.1 hr1.2 HTN.out HCI.out HCR.out hM' hO2;rw[HE.out]at hP;(try unfold Tk.cX tX at hP);rw[HXG.out]at hP;exact hP) ?_;clear hM hO2;intro d3 V1 B1 W1 hd3 hO3 hM;simp only[List.cons_append,List.nil_append]at hM));refine qA [(gx,(tX x.k x.ax x.ay x.bx x.b_y x.cx x.cy x.r x.f x.s x.ci x.co x.len x.n xg),91)] hM qM ?_;(clear hM;intro W hM);refine rD 0 ?_;refine rD 1 ?_;refine rD 2 ?_;refine rD 3 ?_;refine dC 4 (fun K' hK'=> ?_);refine oS hM ?_;clear hM;intro W hM;refine rK hK' hM ?_;clear hK' K';refine rD 5 ?_;refine rD 6 ?_;refine qp qM ?_;go_wp2_with fail
      all_goals
       (refine' uq hM rfl rfl Tryz.isAgg46 Tryz.sizeOf46 rfl rfl rfl ?_ ?_ ⟨.slice none 0 0,0,[],?_,?_,?_,?_⟩;rotate_left 2;(·repeat constructor);(·rfl);(·rw[HB.out];rfl);(·rw[HB.out];exact jN 1000);(·rw[HB.out];rfl);(·exact vq hM))
   have q2:(x.k==2)=false:=by simpa using h2
   have q3:(x.k==3)=false:=by simpa using h3
   have H2:=hide h2;have H3:=hide h3;clear h2 h3;by_cases hl:k+1<ts.length;rotate_left 1
   ·have hdr:ts.drop (k+1)=[]:=List.drop_eq_nil_of_le qg;have HC:=hide (KQ (l:=l) (rad:=rad) (first:=decide (k=0)) (done:=done) (d:=d) H2.out H3.out);have HDR:=hide hdr;have k1:¬k+1<T.1.length:=qg;have k2:¬(k:Int)+1<T.1.length:=qg;clear hl HG2 hdr
    as_aux_lemma=>
     go_wp2_with(first|(refine qe ?_;clear hM;intro g W hM)|(go_at_call 13;refine cD hM (fun R' hM'=>ZT x.bx x.b_y x.n hM' hO2) ?_;clear hM hO2;intro d3 V1 B1 W1 hd3 hO3 hM;simp only[List.cons_append,List.nil_append]at hM))
     all_goals
      (go_roundw
       case rel=>exact⟨k+1,false,d3,V1,B1,[(gT,cur,91)],ts,by omega,hts,rfl,rfl,by go_num,hide (by rw[←HG1.out,HDR.out,HC.out,HD2.out,hd3.out];rfl),HB1,hide (by rw[←hd3.out];exact gL HGP2.out _ _ _),HOt,hide ⟨hO3.out.1,Nat.le_trans hO3.out.2 qg⟩,qC (qC hM)⟩
       case measure=>simp[intOf];omega)
   obtain⟨y,hy⟩:∃y,ts[k+1]? =some y:=⟨_,List.getElem?_eq_getElem hl⟩;obtain⟨pre2,post2,hce2,hpl2,hset2⟩:=KT HCU.out hy
   have hdr:ts.drop (k+1)=y::ts.drop (k+2):=by
    have:=hy;rw[List.getElem?_eq_some_iff]at this;obtain⟨h1,h2⟩:=this;rw[←h2];exact List.drop_eq_getElem_cons h1
   have HYL:=hide (HB1.out y (by rw[hdr];exact List.mem_cons_self));have HPL2:=hide hpl2;have HSET2:=hide hset2;have HDR:=hide hdr;have HY:=hide hy;have k1:k+1<T.1.length:=qg;have k2:(k:Int)+1<T.1.length:=qg;have iw:IntKind.i64.wrap ((k:Int)+1)=(k:Int)+1:=IntWalk.i64_in _ (by have:=HN60.out;omega);clear hpl2 hset2 hdr hy;rcases hyg:y.g with _|_;rotate_left 1
   ·have hcs:y.cells=(tX y.k y.ax y.ay y.bx y.b_y y.cx y.cy y.r y.f y.s y.ci y.co y.len y.n true):=by unfold Tk.cells;rw[hyg]
    rw[hcs]at hce2;have HCE2:=hide hce2;have HC:=hide (Yl (l:=l) (rad:=rad) (first:=decide (k=0)) (done:=done) (d:=d) (r:=ts.drop (k+2)) H2.out H3.out (.inl hyg));rw[hce2]at hM;clear hce2 hcs hyg HG2
    as_aux_lemma=>
     go_wp2_with(first|(go_at_call 13;refine cD hM (fun R' hM'=>ZT x.bx x.b_y x.n hM' hO2) ?_;clear hM hO2;intro d3 V1 B1 W1 hd3 hO3 hM;simp only[List.cons_append,List.nil_append]at hM)|((with_reducible refine lX ?_);first|refine aL hM rfl rfl ?_ (hv:=Zy HPL2.out rfl)|refine aM hM rfl rfl ?_ (hC:=xk HPL2.out (by((repeat constructor)<;>fail))))|(refine qe ?_;clear hM;intro g W hM))
     all_goals
      (go_roundw
       case rel=>exact⟨k+1,false,d3,V1,B1,[(gT,cur,91)],ts,by omega,hts,rfl,rfl,by go_num,hide (by rw[←HG1.out,HDR.out,HC.out,HD2.out,hd3.out];rfl),HB1,hide (by rw[←hd3.out];exact gL HGP2.out _ _ _),HOt,hide ⟨hO3.out.1,Nat.le_trans hO3.out.2 qg⟩,by rw[HCE2.out];exact qC (qC hM)⟩
       case measure=>simp[intOf];omega)
   have hcs:y.cells=(tX y.k y.ax y.ay y.bx y.b_y y.cx y.cy y.r y.f y.s y.ci y.co y.len y.n false):=by unfold Tk.cells;rw[hyg]
   have HCEY:=hide hce2;rw[hcs]at hce2;have HCE2:=hide hce2;have HYG:=hide hyg;rw[hce2]at hM;clear hce2 hcs hyg;obtain⟨hyb,jy,ly,hyn,hly,hleg2,hk32⟩:=HYL.out;obtain⟨b1,o1,he1,haty⟩:=hp.out jy ly hly;injection he1 with he1;injection he1 with ha1 ha2;subst ha1 ha2;have HATY:=hide haty;have HYN:=hide hyn;have HLGY:=hide (DN hyn hly);have HYB:=hide hyb;have hjy:jy<l.length:=(List.getElem?_eq_some_iff.1 hly).1;have HYc:=hide (show-129600000≤y.ci∧y.ci≤259200000 from by have:=hyb.crs.1;unfold Qo at this;omega);clear haty hly hleg2 hk32 hyb hyn;obtain⟨t,ht⟩:∃t,t=ZP rad d2 lx ly x y:=⟨_,rfl⟩;rcases t with _|⟨d4,y4⟩
   ·have HT2:=hide ht;have HC:=hide (Yl (l:=l) (rad:=rad) (first:=decide (k=0)) (done:=done) (d:=d) (x:=x) (y:=y) (r:=ts.drop (k+2)) H2.out H3.out (.inr (by rw[HD2.out,HLG.out,HLGY.out];exact ht.symm)));clear ht HG2
    as_aux_lemma=>
     go_upto_region 22 with(first|((with_reducible refine lX ?_);first|refine aL hM rfl rfl ?_ (hv:=Zy HPL2.out rfl)|refine aM hM rfl rfl ?_ (hC:=xk HPL2.out (by((repeat constructor)<;>fail))))|(refine qe ?_;clear hM;intro g W hM));refine qj ?_;refine qA [(gx,(tX x.k x.ax x.ay x.bx x.b_y x.cx x.cy x.r x.f x.s x.ci x.co x.len x.n xg),91),(gP,[.string pa,.string pb,.slice (some ⟨b0,o0,none⟩) l.length cap,Iv act],24)] hM qM ?_;(clear hM;intro W hM);refine rD 0 ?_;refine rD 1 ?_;refine rD 2 ?_;refine rD 3 ?_;refine rD 4 ?_;refine dP 5 (v:=Iv ((k:Int)+1)) hM ?_ (hv:=by(intro W0;go_simp));refine qj ?_;refine dP 6 (v:= .pointer (some ⟨gT,(k+1)*15,none⟩)) hM ?_ (hv:=by(intro W0;go_simp;intro h;exact absurd h qg));refine qj ?_;refine dC 7 (fun K' hK'=> ?_);go_wp2_with(first|(go_at_call 16;refine cT (v:= .bool false) (d':=d2) (cs':=pre2++mid y.cells post2) (m:=12*k+1+3) hM (fun R' hM'=>by have hP:=mV (pre:=pre2) (post:=post2) (R:=R') (o:=(k+1)*15) pa pb b0 o0 l.length cap act lx ly x y jx jy _ HT2 hr1.1 hr1.2 HXc.out HYc.out HXB.out.len HYB.out.len HXN HYN hjx hjy HL60.out HAT HATY (hide HPL2.out) (by(try unfold Tk.cX tX);rw[HYG.out];exact hM') hO2;(try unfold Tk.cX tX at hP);rw[HXG.out]at hP;exact hP) ?_;clear hM hO2;intro V1 B1 W1 hO3 hM;simp only[List.cons_append,List.nil_append]at hM));refine rK hK' hM ?_;clear hK' K';refine rD 8 ?_;refine qp qM ?_;go_wp2_with(first|(refine qe ?_;clear hM;intro g W hM)|(go_at_call 13;refine cD hM (fun R' hM'=>ZT x.bx x.b_y x.n hM' hO3) ?_;clear hM hO3;intro d3 V1 B1 W1 hd3 hO4 hM;simp only[List.cons_append,List.nil_append]at hM))
     all_goals
      (go_roundw
       case rel=>exact⟨k+1,false,d3,V1,B1,[(gT,cur,91)],ts,by omega,hts,rfl,rfl,by go_num,hide (by rw[←HG1.out,HDR.out,HC.out,HD2.out,hd3.out];rfl),HB1,hide (by rw[←hd3.out];exact gL HGP2.out _ _ _),HOt,hide ⟨hO4.out.1,Nat.le_trans hO4.out.2 qg⟩,by rw[HCEY.out];exact qC (qC hM)⟩
       case measure=>simp[intOf];omega)
   ·have HT2:=hide ht;have HC:=hide (mN (l:=l) (rad:=rad) (first:=decide (k=0)) (done:=done) (d:=d) (x:=x) (y:=y) (r:=ts.drop (k+2)) H2.out H3.out HYG.out (by rw[HD2.out,HLG.out,HLGY.out];exact ht.symm));clear ht HG2
    as_aux_lemma=>
     go_upto_region 22 with(first|((with_reducible refine lX ?_);first|refine aL hM rfl rfl ?_ (hv:=Zy HPL2.out rfl)|refine aM hM rfl rfl ?_ (hC:=xk HPL2.out (by((repeat constructor)<;>fail))))|(refine qe ?_;clear hM;intro g W hM));refine qj ?_;refine qA [(gx,(tX x.k x.ax x.ay x.bx x.b_y x.cx x.cy x.r x.f x.s x.ci x.co x.len x.n xg),91),(gP,[.string pa,.string pb,.slice (some ⟨b0,o0,none⟩) l.length cap,Iv act],24)] hM qM ?_;(clear hM;intro W hM);refine rD 0 ?_;refine rD 1 ?_;refine rD 2 ?_;refine rD 3 ?_;refine rD 4 ?_;refine dP 5 (v:=Iv ((k:Int)+1)) hM ?_ (hv:=by(intro W0;go_simp));refine qj ?_;refine dP 6 (v:= .pointer (some ⟨gT,(k+1)*15,none⟩)) hM ?_ (hv:=by(intro W0;go_simp;intro h;exact absurd h qg));refine qj ?_;refine dC 7 (fun K' hK'=> ?_);go_wp2_with(first|(go_at_call 16;refine cT (v:= .bool true) (d':=d4) (cs':=pre2++mid y4.cells post2) (m:=12*k+1+3) hM (fun R' hM'=>by have hP:=mV (pre:=pre2) (post:=post2) (R:=R') (o:=(k+1)*15) pa pb b0 o0 l.length cap act lx ly x y jx jy _ HT2 hr1.1 hr1.2 HXc.out HYc.out HXB.out.len HYB.out.len HXN HYN hjx hjy HL60.out HAT HATY (hide HPL2.out) (by(try unfold Tk.cX tX);rw[HYG.out];exact hM') hO2;(try unfold Tk.cX tX at hP);rw[HXG.out]at hP;exact hP) ?_;clear hM hO2;intro V1 B1 W1 hO3 hM;simp only[List.cons_append,List.nil_append]at hM));refine rK hK' hM ?_;clear hK' K';refine rD 8 ?_;refine qp qM ?_;go_wp2_with fail
     all_goals
      (go_roundw
       case rel=>exact⟨k+1,true,d4,V1,B1,[(gT,pre2++mid y4.cells post2,91)],ts.set (k+1) y4,by omega,by rw[List.length_set];exact hts,rfl,rfl,by go_num,hide (by rw[List.drop_set,if_neg qg,Nat.sub_self,HDR.out,List.set_cons_zero,←HG1.out,HDR.out,HC.out];rfl),hide (by
        rw[List.drop_set,if_neg qg,Nat.sub_self,HDR.out,List.set_cons_zero];intro z hz;rcases List.mem_cons.1 hz with rfl|hz
        ·exact CX HYL.out HT2.out.symm
        ·exact HB1.out z (by rw[HDR.out];exact .tail _ hz)),hide (CV HGP2.out HT2.out.symm),hide (by
        have hl:=HSET2.out y4;rw[List.length_set,hts]at hl;refine Fc HOt.out ?_ hl (by rw[Jq,List.length_set,hts]);rw[HCEY.out]
        exact Nq),hide ⟨hO3.out.1,Nat.le_trans hO3.out.2 qg⟩,qC (qC hM)⟩
       case measure=>simp[intOf];omega)
  ·have hke:k=ts.length:=qg;have HD:=hide (show CG=(d,0,0) by rw[←HG.out,hke,List.drop_length];rfl);clear HG HB HGP;obtain⟨Se,cape,rfl⟩:=VB hOk.out.1;by_cases h5:500<(d.els.length:Int)
   ·have HB:=hide (show Q=([],0,3) by rw[HQ2.out,HD.out];exact(if_neg jL).trans (if_pos h5));have k5:500<d.els.length:=qg;clear HQ2 HD hke;go_wp2_with(first|(refine qe ?_;clear hM;intro g W hM))
    all_goals
     (refine' uq hM rfl rfl Tryz.isAgg46 Tryz.sizeOf46 rfl rfl rfl ?_ ?_ ⟨.slice none 0 0,0,[],?_,?_,?_,?_⟩;rotate_left 2;(·repeat constructor);(·rfl);(·rw[HB.out];rfl);(·rw[HB.out];exact jN 1000);(·rw[HB.out];rfl);(·exact vq hM))
   ·have HB:=hide (show Q=(d.els,0,0) by rw[HQ2.out,HD.out];exact(if_neg jL).trans (if_neg h5));have k5:¬500<d.els.length:=qg
    have HL:=hide (show∀x∈d.els,aj x by
     have h:=Jp (l:=l) (rad:=rad) T.1 true false ⟨[],fx,fy,false⟩ (fun x hx=>by cases hx);rw[HC0.out,HD.out]at h
     exact h)
    clear HQ2 HD hke HQ0;go_upto_region 35 with(first|(refine qe ?_;clear hM;intro g W hM));obtain⟨gS,rfl⟩:=uC hM;go_wp2_with(first|(refine qe ?_;clear hM;intro g W hM));go_loopw [184] (fun s184 wx=>∃j:Nat,j≤d.els.length∧s184=Iv j∧qF w wx ((gS,[.slice Se d.els.length cape,Iv (vW (d.els.take j))],46)::(gR,[.slice none 0 0,Iv 0],46)::(gO,[Iv spd,Iv bank,Iv oalt,Iv gr],28)::(gF,[Iv fx,Iv fy],26)::(gP,[.string pa,.string pb,.slice S l.length cap,Iv act],24)::(gd,bq (.slice Se d.els.length cape) d rad,88)::(B++Bt))) (fun i _=>d.els.length-(intOf i).toNat)
    case atStart=>exact⟨0,Nat.zero_le _,rfl,hM⟩
    case round=>
     clear hM;obtain⟨j,hj,rfl,hM⟩:=hrel;by_cases hlt:j<d.els.length
     ·obtain⟨e,he⟩:∃e,d.els[j]? =some e:=⟨_,List.getElem?_eq_getElem hlt⟩;obtain⟨ge,cape2,cure,eq1,rfl,hcure⟩:=Jr hOk.out qg;have HC:=hide (VP hcure rfl he);have HS:=hide (fo he);have hb1:=mP (l:=d.els.take j) (fun x hx=>HL.out x (List.mem_of_mem_take hx));have hb2:=HL.out e (List.mem_of_getElem? he);unfold aj at hb2;have hlen:(d.els.take j).length=j:=by rw[List.length_take];omega
      rw[hlen]at hb1;simp only[Value.slice.injEq,true_and]at eq1;obtain⟨rfl,rfl⟩:=eq1;clear he hcure hlen;obtain⟨sm,hsm⟩:∃sm,vW (d.els.take j)=sm:=⟨_,rfl⟩;rw[hsm]at hM hb1;have HSM:=hide hsm;clear hsm;have w1:=IntWalk.i64_in (sm+e.L) qg;simp only[List.cons_append,List.nil_append]at hM;go_wp2_with(first|((with_reducible refine lX ?_);refine FE hM rfl rfl rfl (by((repeat constructor)<;>fail)) HC.out ?_)|(refine qe ?_;clear hM;intro g W hM))
      all_goals
       go_roundw
       case rel=>exact⟨j+1,hlt,by go_num,by rw[HS.out,HSM.out];exact qC hM⟩
       case measure=>simp[intOf];omega
     ·have hje:j=d.els.length:=qg;have HS:=hide (show vW (d.els.take j)=vW d.els by rw[hje,List.take_length]);rw[HS.out]at hM;clear hje;go_wp2_with(first|(refine qe ?_;clear hM;intro g W hM))
      all_goals
       (refine' uq hM rfl rfl Tryz.isAgg46 Tryz.sizeOf46 rfl rfl rfl ?_ ?_ ⟨.slice Se d.els.length cape,vW d.els,B,?_,?_,?_,?_⟩;rotate_left 2;(·repeat constructor);(·rfl);(·rw[HB.out];rfl);(·rw[HB.out];exact⟨hOk.out.1,Nat.le_trans hOk.out.2 (by have:=HN60.out;omega)⟩);(·rw[HB.out]);(·exact Nn (qC (qC (qC (qC (qC (qC hM))))))))
end Go.Proofs.YtiegohjobhehcaaGreatDoor
