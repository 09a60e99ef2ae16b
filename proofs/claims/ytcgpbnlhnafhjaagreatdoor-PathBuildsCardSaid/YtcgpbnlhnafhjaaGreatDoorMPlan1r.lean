/-
  The reference: pair, Place, Via, Section; Starts, Ends, From, Follows, Joins; for all arguments.
-/
import Derived.Test.YtcgpbnlhnafhjaaGreatDoorMTrks
set_option maxRecDepth 100000
set_option maxHeartbeats 16000000
namespace Go.Proofs.YtcgpbnlhnafhjaaGreatDoor
open Go.RowKit
set_option linter.unusedVariables false
set_option linter.unusedSimpArgs false
theorem Uh(s:ByteArray)(b:UInt8)(B:Int)(hB:B=b.toNat)(m:Int)(hs:s.size≤maxLen)(w:World):
 Calls Tryz.prog 166 #[.string s,.int .u8 B,Iv m] w (Qs (.bool (tk s.data.toList b m)) w):=by
 have hm:=hs;unfold maxLen at hs;have NS:=fun W=>Qr s m hm W
 go_enter Tryz.func166,Tryz.ntmps166;go_wp2_with fail;go_loop [7] (fun i=>∃k:Nat,k≤s.size∧i=Iv k∧Hid (b∉s.data.toList.take k)) (fun i=>s.size-(intOf i).toNat)
 case atStart=>exact⟨0,by omega,rfl,hide DS⟩
 case round=>
  obtain⟨k,hk,rfl,hA⟩:=hrel;by_cases hlt:k<s.size
  ·by_cases hc:s[k]=b
   ·have hcut:xN s b (s.extract 0 k) (s.extract (k+1) s.size) true:=by
     refine .inl ⟨rfl,?_,?_,?_⟩
     ·rw[ng s b k hlt hc hA.out];congr 2
      ·simp[ByteArray.data_extract]
      ·simp only[ByteArray.data_extract,Array.toList_extract,List.extract];rw[List.take_of_length_le DS]
     ·simp[ByteArray.size_extract];omega
     ·simp[ByteArray.size_extract]
    have hsz:=Jk hcut;have hc1:((s[k].toNat:Int)==B)=true:=by rw[hc,hB];simp
    have HP:=hide (Ta hcut m);clear hcut hc;have NX:=fun W=>Qr (s.extract 0 k) m (by unfold maxLen;omega) W
    have NY:=fun W=>Qr (s.extract (k+1) s.size) m (by unfold maxLen;omega) W
    clear hsz;have a1:(0:Int)≤(k:Int):=DL;have a2:(k:Int)≤(s.size:Int):=DL;have a3:(0:Int)≤(k:Int)+1:=DL;have a4:(k:Int)+1≤(s.size:Int):=DL;have iw:IntKind.i64.wrap ((k:Int)+1)=(k:Int)+1:=IntWalk.i64_in _ DL;have tn:((k:Int)+1).toNat=k+1:=DL;clear hB;rcases h1:yA (s.extract 0 k).data.toList m with _|_<;>rcases h2:yA (s.extract (k+1) s.size).data.toList m with _|_
    all_goals
     rw[h1]at NX HP;rw[h2]at NY HP;clear h1 h2;go_wp2_with(first|(go_at_call 205;with_reducible refine(NX _).mono ?_;rintro e w2 ⟨rfl,rfl⟩)|(go_at_call 205;with_reducible refine(NY _).mono ?_;rintro e w2 ⟨rfl,rfl⟩));go_ret;exact⟨jh HP.out.symm,0,rfl⟩
   ·have hc1:((s[k].toNat:Int)==B)=false:=by
     rw[beq_eq_false_iff_ne,hB];intro e;exact hc (UInt8.toNat_inj.1 DL)
    have hstep:Hid (b∉s.data.toList.take (k+1)):=hide (by
     rw[Ya s k hlt];intro hm;rcases List.mem_append.1 hm with hm|hm
     ·exact hA.out hm
     ·exact hc (by simpa using hm:b=s[k]).symm)
    clear hc hB;go_wp2_with fail
    all_goals
     go_round
     case rel=>exact⟨k+1,by omega,by go_num,hstep⟩
     case measure=>simp[intOf];omega
  ·have hR:Hid (tk s.data.toList b m=yA s.data.toList m):=hide (by
    have h2:=hA.out;rw[List.take_of_length_le (by simp;omega)]at h2;unfold tk
    rw[VY h2])
   clear hB;go_wp2_with(first|(go_at_call 205;with_reducible refine(NS _).mono ?_;rintro e w2 ⟨rfl,rfl⟩));go_ret;exact⟨jh hR.out.symm,0,rfl⟩
theorem VJ(s:ByteArray)(hs:s.size≤maxLen)(w:World):
 Calls Tryz.prog 103 #[.string s] w (Qs (.bool (kO s)) w):=by
 by_cases h:s=⟨#[]⟩
 ·subst h;go_enter Tryz.func103,Tryz.ntmps103;go_wp2_with fail
  all_goals
   go_ret;exact⟨jh rfl,0,rfl⟩
 ·have HR:Hid (kO s=tk s.data.toList 47 6):=hide (by unfold kO;rw[decide_eq_false (fun e=>h (vS e))];rfl)
  have hl:s.toList=[]↔False:=by
   rw[Lib.toList_data];exact⟨fun e=>h (vS e),False.elim⟩
  have hl2:(s.toList==[])=false:=by
   rw[beq_eq_false_iff_ne];exact fun e=>hl.1 e
  have hl3:s.toList.isEmpty=false:=by
   cases hq:s.toList with
   |nil=>exact(hl.1 hq).elim
   |cons a b=>rfl
  clear h;have PA:=fun W=>Uh s 47 47 rfl 6 hs W
  go_enter Tryz.func103,Tryz.ntmps103;go_wp2_with(first|(go_at_call 166;(with_reducible refine(PA _).mono ?_);rintro e w2 ⟨rfl,n,rfl⟩))
  all_goals first
   |(exfalso;simp_all;done)
   |(go_ret
     exact⟨jh HR.out.symm,_,rfl⟩)
theorem aR(s:ByteArray)(hs:s.size≤maxLen)(w:World):
 Calls Tryz.prog 168 #[.string s] w (Qs (.bool (Bz s)) w):=by
 by_cases h:s=⟨#[]⟩
 ·subst h;go_enter Tryz.func168,Tryz.ntmps168;go_wp2_with fail
  all_goals
   go_ret;exact⟨jh rfl,0,rfl⟩
 ·have HR:Hid (Bz s=tk s.data.toList 46 8):=hide (by unfold Bz;rw[decide_eq_false (fun e=>h (vS e))];rfl)
  have hl:s.toList=[]↔False:=by
   rw[Lib.toList_data];exact⟨fun e=>h (vS e),False.elim⟩
  have hl2:(s.toList==[])=false:=by
   rw[beq_eq_false_iff_ne];exact fun e=>hl.1 e
  have hl3:s.toList.isEmpty=false:=by
   cases hq:s.toList with
   |nil=>exact(hl.1 hq).elim
   |cons a b=>rfl
  clear h;have PA:=fun W=>Uh s 46 46 rfl 8 hs W
  go_enter Tryz.func168,Tryz.ntmps168;go_wp2_with(first|(go_at_call 166;(with_reducible refine(PA _).mono ?_);rintro e w2 ⟨rfl,n,rfl⟩))
  all_goals first
   |(exfalso;simp_all;done)
   |(go_ret
     exact⟨jh HR.out.symm,_,rfl⟩)
theorem Bw(t:Int)(w:World):Calls Tryz.prog 167 #[.int .u8 t] w fun e w'=>e= .returned (.bool (decide (1≤t∧t≤5)))∧w=w':=by
 obtain⟨V,hV⟩:∃V,decide (1≤t∧t≤5)=V:=⟨_,rfl⟩;rw[hV]
 have hcs:(decide (1≤t)=false∧V=false)∨(decide (1≤t)=true∧decide (t≤5)=V):=by
  by_cases h:1≤t
  ·exact .inr ⟨decide_eq_true h,by rw[←hV];exact decide_eq_decide.2 DL⟩
  ·exact .inl ⟨decide_eq_false h,by rw[←hV];exact decide_eq_false DL⟩
 clear hV;rcases hcs with⟨e1,rfl⟩|⟨e1,e2⟩
 ·go_enter Tryz.func167,Tryz.ntmps167;go_wp2_with fail
  all_goals
   go_ret;exact⟨rfl,rfl⟩
 ·go_enter Tryz.func167,Tryz.ntmps167;go_wp2_with fail
  all_goals
   go_ret
   first|exact⟨rfl,rfl⟩|exact⟨jh e2,rfl⟩
theorem GW(t:Int)(w:World):
 Calls Tryz.prog 105 #[.int .u8 t] w fun e w'=>e= .returned (.bool (bM t))∧w=w':=by
 go_enter Tryz.func105,Tryz.ntmps105;go_wp2_with fail
 all_goals
  go_ret;exact⟨jh (by unfold bM;(first|rfl|((try simp only[beq_iff_eq,beq_eq_false_iff_ne,bne_iff_ne,bne_eq_false_iff_eq,ne_eq,decide_eq_true_eq,decide_eq_false_iff_not,Bool.not_eq_true]at*);first|omega|(refine(decide_eq_true ?_).symm;omega)|(refine(decide_eq_false ?_).symm;omega)|(refine decide_eq_decide.2 ?_;omega)|(rw[Bool.eq_iff_iff];simp only[Bool.or_eq_true,Bool.and_eq_true,beq_iff_eq,bne_iff_ne,ne_eq,decide_eq_true_eq,Bool.not_eq_true',decide_eq_false_iff_not];omega)))),rfl⟩
theorem cL(t:Int)(w:World):
 Calls Tryz.prog 107 #[.int .u8 t] w fun e w'=>e= .returned (.bool (ZY t))∧w=w':=by
 obtain⟨V,hV⟩:∃V,ZY t=V:=⟨_,rfl⟩;rw[hV]
 have hcs:(decide (1≤t)=false∧decide (14≤t)=false∧V=false)∨(decide (1≤t)=true∧decide (t≤6)=true∧V=true)∨(decide (1≤t)=true∧decide (t≤6)=false∧decide (14≤t)=false∧V=false)∨(decide (1≤t)=true∧decide (t≤6)=false∧decide (14≤t)=true∧decide (t≤17)=V):=by
  unfold ZY at hV;by_cases h:1≤t
  ·by_cases h6:t≤6
   ·exact .inr (.inl ⟨decide_eq_true h,decide_eq_true h6,by rw[←hV];exact decide_eq_true DL⟩)
   ·by_cases h14:14≤t
    ·exact .inr (.inr (.inr ⟨decide_eq_true h,decide_eq_false h6,decide_eq_true h14,by rw[←hV];exact decide_eq_decide.2 DL⟩))
    ·exact .inr (.inr (.inl ⟨decide_eq_true h,decide_eq_false h6,decide_eq_false h14,by rw[←hV];exact decide_eq_false DL⟩))
  ·exact .inl ⟨decide_eq_false h,decide_eq_false DL,by rw[←hV];exact decide_eq_false DL⟩
 clear hV;rcases hcs with⟨e1,e2,rfl⟩|⟨e1,e2,rfl⟩|⟨e1,e2,e3,rfl⟩|⟨e1,e2,e3,e4⟩
 all_goals
  go_enter Tryz.func107,Tryz.ntmps107;go_wp2_with fail
  all_goals
   go_ret
   first|exact⟨rfl,rfl⟩|exact⟨jh e4,rfl⟩
theorem cM(t:Int)(w:World):
 Calls Tryz.prog 170 #[.int .u8 t] w fun e w'=>e= .returned (.bool (QZ t))∧w=w':=by
 obtain⟨V,hV⟩:∃V,QZ t=V:=⟨_,rfl⟩;rw[hV]
 have hcs:(decide (11≤t)=false∧V=false)∨(decide (11≤t)=true∧decide (t≤17)=V):=by
  unfold QZ at hV;by_cases h:11≤t
  ·exact .inr ⟨decide_eq_true h,by rw[←hV];exact decide_eq_decide.2 DL⟩
  ·exact .inl ⟨decide_eq_false h,by rw[←hV];exact decide_eq_false DL⟩
 clear hV;rcases hcs with⟨e1,rfl⟩|⟨e1,e2⟩
 all_goals
  go_enter Tryz.func170,Tryz.ntmps170;go_wp2_with fail
  all_goals
   go_ret
   first|exact⟨rfl,rfl⟩|exact⟨jh e2,rfl⟩
theorem Ui{t:Int}(h1:1≤t)(h2:t≤17):uH t≠⟨#[]⟩:=fun e=>by
 obtain⟨n,rfl⟩:∃n:Nat,t=n:=⟨t.toNat,DL⟩;have:=(JD n DL).2 DL;rw[e]at this;exact absurd this DQ
theorem Bx(a b:Int)(w:World):
 Calls Tryz.prog 169 #[.int .u8 a,.int .u8 b] w fun e w'=>e= .returned (.bool (yY a b))∧w=w':=by
 have UA:=fun W=>xY a W
 have UB:=fun W=>xY b W
 by_cases ha:a<1∨17<a
 ·rw[ZI ha]at UA;have HR:Hid (yY a b=false):=hide (decide_eq_false DL);clear ha UB;go_enter Tryz.func169,Tryz.ntmps169;go_wp2_with(first|refine DG (UA _) ?_)
  all_goals
   go_ret;exact⟨jh HR.out.symm,rfl⟩
 have na:=Ui (t:=a) DL DL;obtain⟨sa,ea⟩:∃sa,uH a=sa:=⟨_,rfl⟩;rw[ea]at UA na;clear ea;obtain⟨f1,f2,f3⟩:=JT na;clear na;by_cases hb:b<1∨17<b
 ·rw[ZI hb]at UB;have HR:Hid (yY a b=false):=hide (decide_eq_false DL);clear ha hb;go_enter Tryz.func169,Tryz.ntmps169;go_wp2_with(first|refine DG (UA _) ?_|refine DG (UB _) ?_)
  all_goals
   go_ret;exact⟨jh HR.out.symm,rfl⟩
 have nb:=Ui (t:=b) DL DL;obtain⟨sb,eb⟩:∃sb,uH b=sb:=⟨_,rfl⟩;rw[eb]at UB nb;clear eb;obtain⟨g1,g2,g3⟩:=JT nb;clear nb;have a1:1≤a:=DL;have a2:a≤17:=DL;have b1:1≤b:=DL;have b2:b≤17:=DL;clear ha hb;obtain⟨V,hV⟩:∃V,yY a b=V:=⟨_,rfl⟩;rw[hV];unfold yY at hV;have HV:=hide hV;clear hV;by_cases hb1:b=1
 ·have hq:(b==1)=true:=by simpa using hb1
  have hV2:V=false:=by rw[←HV.out];exact decide_eq_false DL
  clear HV hb1;subst hV2;go_enter Tryz.func169,Tryz.ntmps169;go_wp2_with(first|refine DG (UA _) ?_|refine DG (UB _) ?_)
  all_goals
   go_ret;exact⟨rfl,rfl⟩
 have hq:(b==1)=false:=by simpa using hb1
 go_enter Tryz.func169,Tryz.ntmps169;go_wp2_with(first|refine DG (UA _) ?_|refine DG (UB _) ?_)
 all_goals
  go_ret;exact⟨jh (by rw[←HV.out];(first|rfl|((try simp only[beq_iff_eq,beq_eq_false_iff_ne,bne_iff_ne,bne_eq_false_iff_eq,ne_eq,decide_eq_true_eq,decide_eq_false_iff_not,Bool.not_eq_true]at*);first|omega|(refine(decide_eq_true ?_).symm;omega)|(refine(decide_eq_false ?_).symm;omega)|(refine decide_eq_decide.2 ?_;omega)|(rw[Bool.eq_iff_iff];simp only[Bool.or_eq_true,Bool.and_eq_true,beq_iff_eq,bne_iff_ne,ne_eq,decide_eq_true_eq,Bool.not_eq_true',decide_eq_false_iff_not];omega)))),rfl⟩
theorem wZ(y x:En)(w:World):
 Calls Tryz.prog 106 #[.agg y.leg.toArray,.agg x.leg.toArray] w fun e w'=>e= .returned (.bool (Qj y x))∧Below w.heap.size w w':=by
 have FO:=fun W=>Bx y.ty x.ty W
 have FR:=fun W=>cM x.ty W
 have HR:=hide (show Qj y x=(yY y.ty x.ty&&(!QZ x.ty||decide (y.fx=x.fx)))from rfl);rcases h1:yY y.ty x.ty with _|_<;>rcases h2:QZ x.ty with _|_
 all_goals
  rw[h1]at FO HR;rw[h2]at FR HR;clear h1 h2;have hM:=qE w;go_enter Tryz.func106,Tryz.ntmps106;go_wp2_with(first|(go_at_call 169;(with_reducible refine(FO _).mono ?_);rintro e W1 ⟨rfl,rfl⟩)|(go_at_call 170;(with_reducible refine(FR _).mono ?_);rintro e W1 ⟨rfl,rfl⟩)|((with_reducible refine lX ?_);refine mL ?_)|((with_reducible refine sX ?_);refine mS ?_;clear hM;intro W hM)|((with_reducible refine bX ?_);refine mB ?_;clear hM;intro g W hM)|((with_reducible refine zX ?_);refine mB ?_;clear hM;intro g W hM))
  all_goals
   go_ret;exact⟨jh (by rw[HR.out];first|rfl|(simp;done)|(rw[Bool.eq_iff_iff];simp[QI])),hM.below⟩
set_option maxRecDepth 100000 in
set_option maxHeartbeats 8000000 in
theorem pd(x:En)(hx:Tq x)(w:World):
 Calls Tryz.prog 104 #[.agg x.cells.toArray] w fun e w'=>e= .returned (Iv (ku x))∧Below w.heap.size w w':=by
 have LC:=fun W=>zR x hx.w.leg W
 have SE:=fun W=>Bw x.sec W
 have WA:=fun W=>aR x.via hx.via W
 have P1:=fun W=>qL x.ex x.ey W
 have P2:=fun W=>qL x.mx x.my W
 obtain⟨E0,hE⟩:∃E0,zU x=E0:=⟨_,rfl⟩;obtain⟨R,hR⟩:∃R,ku x=R:=⟨_,rfl⟩;have HT:=hide hR;unfold ku at hR;rw[hE]at LC hR;clear hE;by_cases hL:E0=0;rotate_left 1
 ·rw[if_pos hL]at hR;subst hR;have hne:(E0 !=0)=true:=by simpa using hL
  clear hL;have hM:=qE w;go_enter Tryz.func104,Tryz.ntmps104;go_wp2_with(first|(go_at_call 110;(refine(LC _).mono ?_);rintro e W1 ⟨rfl,hb⟩;replace hM:=qz hM hb;clear hb)|(go_at_call 167;(with_reducible refine(SE _).mono ?_);rintro e W1 ⟨rfl,rfl⟩)|(go_at_call 168;(with_reducible refine(WA _).mono ?_);rintro e W1 ⟨rfl,hq⟩;replace hM:=zj hM hq;clear hq)|(go_at_call 49;(with_reducible refine cb hM (P1 _) ?_);clear hM;intro W1 hM)|(go_at_call 49;(with_reducible refine cb hM (P2 _) ?_);clear hM;intro W1 hM)|((with_reducible refine lX ?_);refine mL ?_)|((with_reducible refine sX ?_);refine mS ?_;clear hM;intro W hM)|((with_reducible refine bX ?_);refine mB ?_;clear hM;intro g W hM)|((with_reducible refine zX ?_);refine mB ?_;clear hM;intro g W hM))
  all_goals first
   |(go_ret;exact⟨qI HT.out.symm,hM.below⟩;done)
   |(exfalso;simp_all;done)
 subst hL;rw[if_neg DS]at hR;by_cases hs:x.sec<1∨x.sec>5
 ·rw[if_pos hs]at hR;subst hR;rw[decide_eq_false DL]at SE;clear hs;have hM:=qE w;go_enter Tryz.func104,Tryz.ntmps104;go_wp2_with(first|(go_at_call 110;(refine(LC _).mono ?_);rintro e W1 ⟨rfl,hb⟩;replace hM:=qz hM hb;clear hb)|(go_at_call 167;(with_reducible refine(SE _).mono ?_);rintro e W1 ⟨rfl,rfl⟩)|(go_at_call 168;(with_reducible refine(WA _).mono ?_);rintro e W1 ⟨rfl,hq⟩;replace hM:=zj hM hq;clear hq)|(go_at_call 49;(with_reducible refine cb hM (P1 _) ?_);clear hM;intro W1 hM)|(go_at_call 49;(with_reducible refine cb hM (P2 _) ?_);clear hM;intro W1 hM)|((with_reducible refine lX ?_);refine mL ?_)|((with_reducible refine sX ?_);refine mS ?_;clear hM;intro W hM)|((with_reducible refine bX ?_);refine mB ?_;clear hM;intro g W hM)|((with_reducible refine zX ?_);refine mB ?_;clear hM;intro g W hM))
  all_goals first
   |(go_ret;exact⟨qI HT.out.symm,hM.below⟩;done)
   |(exfalso;simp_all;done)
 rw[if_neg hs]at hR;rw[decide_eq_true DL]at SE;clear hs;rcases hw:Bz x.via with _|_
 ·rw[hw,if_pos rfl]at hR;rw[hw]at WA;subst hR;clear hw;have hM:=qE w;go_enter Tryz.func104,Tryz.ntmps104;go_wp2_with(first|(go_at_call 110;(refine(LC _).mono ?_);rintro e W1 ⟨rfl,hb⟩;replace hM:=qz hM hb;clear hb)|(go_at_call 167;(with_reducible refine(SE _).mono ?_);rintro e W1 ⟨rfl,rfl⟩)|(go_at_call 168;(with_reducible refine(WA _).mono ?_);rintro e W1 ⟨rfl,hq⟩;replace hM:=zj hM hq;clear hq)|(go_at_call 49;(with_reducible refine cb hM (P1 _) ?_);clear hM;intro W1 hM)|(go_at_call 49;(with_reducible refine cb hM (P2 _) ?_);clear hM;intro W1 hM)|((with_reducible refine lX ?_);refine mL ?_)|((with_reducible refine sX ?_);refine mS ?_;clear hM;intro W hM)|((with_reducible refine bX ?_);refine mB ?_;clear hM;intro g W hM)|((with_reducible refine zX ?_);refine mB ?_;clear hM;intro g W hM))
  all_goals first
   |(go_ret;exact⟨qI HT.out.symm,hM.below⟩;done)
   |(exfalso;simp_all;done)
 rw[hw,if_neg DS]at hR;rw[hw]at WA;clear hw;rcases v1:qw x.ex x.ey with _|_
 ·rw[v1,if_pos DS]at hR;rw[v1]at P1;subst hR;clear v1;have hM:=qE w;go_enter Tryz.func104,Tryz.ntmps104;go_wp2_with(first|(go_at_call 110;(refine(LC _).mono ?_);rintro e W1 ⟨rfl,hb⟩;replace hM:=qz hM hb;clear hb)|(go_at_call 167;(with_reducible refine(SE _).mono ?_);rintro e W1 ⟨rfl,rfl⟩)|(go_at_call 168;(with_reducible refine(WA _).mono ?_);rintro e W1 ⟨rfl,hq⟩;replace hM:=zj hM hq;clear hq)|(go_at_call 49;(with_reducible refine cb hM (P1 _) ?_);clear hM;intro W1 hM)|(go_at_call 49;(with_reducible refine cb hM (P2 _) ?_);clear hM;intro W1 hM)|((with_reducible refine lX ?_);refine mL ?_)|((with_reducible refine sX ?_);refine mS ?_;clear hM;intro W hM)|((with_reducible refine bX ?_);refine mB ?_;clear hM;intro g W hM)|((with_reducible refine zX ?_);refine mB ?_;clear hM;intro g W hM))
  all_goals first
   |(go_ret;exact⟨qI HT.out.symm,hM.below⟩;done)
   |(exfalso;simp_all;done)
 rcases v2:qw x.mx x.my with _|_
 ·rw[v1,v2,if_pos DS]at hR;rw[v1]at P1;rw[v2]at P2;subst hR;clear v1 v2;have hM:=qE w;go_enter Tryz.func104,Tryz.ntmps104;go_wp2_with(first|(go_at_call 110;(refine(LC _).mono ?_);rintro e W1 ⟨rfl,hb⟩;replace hM:=qz hM hb;clear hb)|(go_at_call 167;(with_reducible refine(SE _).mono ?_);rintro e W1 ⟨rfl,rfl⟩)|(go_at_call 168;(with_reducible refine(WA _).mono ?_);rintro e W1 ⟨rfl,hq⟩;replace hM:=zj hM hq;clear hq)|(go_at_call 49;(with_reducible refine cb hM (P1 _) ?_);clear hM;intro W1 hM)|(go_at_call 49;(with_reducible refine cb hM (P2 _) ?_);clear hM;intro W1 hM)|((with_reducible refine lX ?_);refine mL ?_)|((with_reducible refine sX ?_);refine mS ?_;clear hM;intro W hM)|((with_reducible refine bX ?_);refine mB ?_;clear hM;intro g W hM)|((with_reducible refine zX ?_);refine mB ?_;clear hM;intro g W hM))
  all_goals first
   |(go_ret;exact⟨qI HT.out.symm,hM.below⟩;done)
   |(exfalso;simp_all;done)
 rw[v1,v2,if_neg DS]at hR;rw[v1]at P1;rw[v2]at P2;clear v1 v2;obtain⟨V,HV,hcs⟩:=Yl x.fx x.ct x.ex x.ey x.mx x.my;have hM:=qE w;go_enter Tryz.func104,Tryz.ntmps104;go_upto_region 11 with(first|(go_at_call 110;(refine(LC _).mono ?_);rintro e W1 ⟨rfl,hb⟩;replace hM:=qz hM hb;clear hb)|(go_at_call 167;(with_reducible refine(SE _).mono ?_);rintro e W1 ⟨rfl,rfl⟩)|(go_at_call 168;(with_reducible refine(WA _).mono ?_);rintro e W1 ⟨rfl,hq⟩;replace hM:=zj hM hq;clear hq)|(go_at_call 49;(with_reducible refine cb hM (P1 _) ?_);clear hM;intro W1 hM)|(go_at_call 49;(with_reducible refine cb hM (P2 _) ?_);clear hM;intro W1 hM)|((with_reducible refine lX ?_);refine mL ?_)|((with_reducible refine sX ?_);refine mS ?_;clear hM;intro W hM)|((with_reducible refine bX ?_);refine mB ?_;clear hM;intro g W hM)|((with_reducible refine zX ?_);refine mB ?_;clear hM;intro g W hM))
 try simp only[pS,pN,sA,sB,sC]
 go_cut [51] (fun s wx=>s= .bool V∧∃gz gx,qU w wx [(gz,[Iv 0,Iv 0],26),(gx,x.cells,47)])
 case first=>
  rcases hcs with⟨hf,hc,rfl⟩|⟨hf,hc,m1,m2,rfl⟩|⟨hf,hc,m1,rfl⟩|⟨hf,hc,m1,m2,rfl⟩|⟨hf,e1,rfl⟩|⟨hf,e1,e2,rfl⟩|⟨hf,e1,e2,hc,rfl⟩|⟨hf,e1,e2,hc,m1,m2,rfl⟩|⟨hf,e1,e2,hc,m1,rfl⟩|⟨hf,e1,e2,hc,m1,m2,rfl⟩
  all_goals(
   try(have hf2:=JT hf;obtain⟨f1,f2,f3⟩:=hf2;clear hf)
   try(have hc2:=JT hc;obtain⟨c1,c2,c3⟩:=hc2;clear hc)
   go_wp2_with(first|((with_reducible refine lX ?_);refine mL ?_)|((with_reducible refine sX ?_);refine mS ?_;clear hM;intro W hM)|((with_reducible refine zX ?_);refine mB ?_;clear hM;intro g W hM))
   all_goals first
    |(go_meet;exact⟨rfl,_,_,hM⟩;done)
    |(exfalso;simp_all;done))
 case rest=>
 clear hM;obtain⟨rfl,gz,gx,hM⟩:=hcut;rcases V with _|_
 ·rw[if_neg (fun h=>by have:=HV.out.2 h;cases this)]at hR;subst hR;go_wp2_with fail;go_ret;exact⟨qI HT.out.symm,hM.below⟩
 ·rw[if_pos (HV.out.1 rfl)]at hR;subst hR;go_wp2_with fail;go_ret;exact⟨qI HT.out.symm,hM.below⟩
set_option maxRecDepth 100000 in
set_option maxHeartbeats 8000000 in
theorem pg(pa pb:ByteArray)(S:Option Addr)(l:List En)(cap:Nat)(act:Int)(w:World)(ha:pa.size≤maxLen)(hb:pb.size≤maxLen)(hp:Hid (tL w S l))(hxs:Hid (∀(k:Nat) (x:En),l[k]? =some x→Tq x)):
 Calls Tryz.prog 47 #[.agg #[.string pa,.string pb,.slice S l.length cap,Iv act]] w fun e w'=>e= .returned (Iv (jR pa pb l act))∧Below w.heap.size w w':=by
 have HF:Hid (jR pa pb l act=if(kO pa&&kO pb)=false then 5 else if(l.length:Int)>60 then 3 else if yH none 0 l≠0 then yH none 0 l else if act≠ -1∧(act<0∨act≥l.length∨bJ l act=true)then 2 else 0):=hide rfl;have PA:=fun W=>VJ pa ha W
 have PB:=fun W=>VJ pb hb W
 rcases h1:kO pa with _|_
 ·have HR:Hid (jR pa pb l act=5):=hide (by rw[HF.out,h1,if_pos (by rfl)]);rw[h1]at PA;clear h1 HF;have hM:=qE w;go_enter Tryz.func47,Tryz.ntmps47;go_wp2_with(first|(go_at_call 103;(with_reducible refine(PA _).mono ?_);rintro e W1 ⟨rfl,hq⟩;replace hM:=zj hM hq;clear hq)|(go_at_call 103;(with_reducible refine(PB _).mono ?_);rintro e W1 ⟨rfl,hq⟩;replace hM:=zj hM hq;clear hq)|((with_reducible refine lX ?_);refine mL ?_)|((with_reducible refine sX ?_);refine mS ?_;clear hM;intro W hM)|((with_reducible refine bX ?_);refine mB ?_;clear hM;intro g W hM)|((with_reducible refine zX ?_);refine mB ?_;clear hM;intro g W hM))
  all_goals
   go_ret;exact⟨qI HR.out.symm,hM.below⟩
 rcases h2:kO pb with _|_
 ·have HR:Hid (jR pa pb l act=5):=hide (by rw[HF.out,h1,h2,if_pos (by rfl)]);rw[h1]at PA;rw[h2]at PB;clear h1 h2 HF;have hM:=qE w;go_enter Tryz.func47,Tryz.ntmps47;go_wp2_with(first|(go_at_call 103;(with_reducible refine(PA _).mono ?_);rintro e W1 ⟨rfl,hq⟩;replace hM:=zj hM hq;clear hq)|(go_at_call 103;(with_reducible refine(PB _).mono ?_);rintro e W1 ⟨rfl,hq⟩;replace hM:=zj hM hq;clear hq)|((with_reducible refine lX ?_);refine mL ?_)|((with_reducible refine sX ?_);refine mS ?_;clear hM;intro W hM)|((with_reducible refine bX ?_);refine mB ?_;clear hM;intro g W hM)|((with_reducible refine zX ?_);refine mB ?_;clear hM;intro g W hM))
  all_goals
   go_ret;exact⟨qI HR.out.symm,hM.below⟩
 have HF2:Hid (jR pa pb l act=if(l.length:Int)>60 then 3 else if yH none 0 l≠0 then yH none 0 l else if act≠ -1∧(act<0∨act≥l.length∨bJ l act=true)then 2 else 0):=hide (by rw[HF.out,h1,h2,if_neg DS]);rw[h1]at PA;rw[h2]at PB;clear h1 h2 HF;by_cases h60:(l.length:Int)>60
 ·have HR:Hid (jR pa pb l act=3):=hide (by rw[HF2.out,if_pos h60]);clear HF2;have hM:=qE w;go_enter Tryz.func47,Tryz.ntmps47;go_wp2_with(first|(go_at_call 103;(with_reducible refine(PA _).mono ?_);rintro e W1 ⟨rfl,hq⟩;replace hM:=zj hM hq;clear hq)|(go_at_call 103;(with_reducible refine(PB _).mono ?_);rintro e W1 ⟨rfl,hq⟩;replace hM:=zj hM hq;clear hq)|((with_reducible refine lX ?_);refine mL ?_)|((with_reducible refine sX ?_);refine mS ?_;clear hM;intro W hM)|((with_reducible refine bX ?_);refine mB ?_;clear hM;intro g W hM)|((with_reducible refine zX ?_);refine mB ?_;clear hM;intro g W hM))
  all_goals
   go_ret;exact⟨qI HR.out.symm,hM.below⟩
 have HF3:Hid (jR pa pb l act=if yH none 0 l≠0 then yH none 0 l else if act≠ -1∧(act<0∨act≥l.length∨bJ l act=true)then 2 else 0):=hide (by rw[HF2.out,if_neg h60]);clear HF2;have l60:l.length≤60:=DL;clear h60;have hM:=qE w;go_enter Tryz.func47,Tryz.ntmps47;go_wp2_with(first|(go_at_call 103;(with_reducible refine(PA _).mono ?_);rintro e W1 ⟨rfl,hq⟩;replace hM:=zj hM hq;clear hq)|(go_at_call 103;(with_reducible refine(PB _).mono ?_);rintro e W1 ⟨rfl,hq⟩;replace hM:=zj hM hq;clear hq)|((with_reducible refine lX ?_);refine mL ?_)|((with_reducible refine sX ?_);refine mS ?_;clear hM;intro W hM)|((with_reducible refine bX ?_);refine mB ?_;clear hM;intro g W hM)|((with_reducible refine zX ?_);refine mB ?_;clear hM;intro g W hM));obtain⟨gp,rfl⟩:=Dy hM;go_loopw [3,25] (fun a i W=>∃(k:Nat) (la:Int),k≤l.length∧a= .int .u8 la∧i=Iv (k:Int)∧Hid (yH none 0 l=yH (yw l k) la (l.drop k))∧qU w W [(gp,[.string pa,.string pb,.slice S l.length cap,Iv act],24)]) (fun a i _=>l.length-(intOf i).toNat)
 case atStart=>exact⟨0,0,by omega,rfl,rfl,hide rfl,hM⟩
 case round=>
  clear hM;obtain⟨k,la,hk,rfl,rfl,HG,hM⟩:=hrel;by_cases hlt:k<l.length
  ·(
   obtain⟨x,hx⟩:∃x,l[k]? =some x:=⟨_,List.getElem?_eq_getElem hlt⟩;obtain⟨b,o,rfl,hat⟩:=hp.out k x hx;have hxw:=hxs.out k x hx;have AL:=fun W=>pd x hxw W
   have HX:=hide hx;clear hx
   have hpre:Hid (k=0∧yw l k=none)∨∃(j:Nat) (y:En),k=j+1∧Hid (yw l k=some y)∧uz w b (o+j*20) y:=by
    rcases Nat.eq_zero_or_pos k with h0|h0
    ·exact .inl (hide ⟨h0,by unfold yw;rw[if_pos h0]⟩)
    ·obtain⟨j,rfl⟩:∃j,k=j+1:=⟨k-1,DL⟩;obtain⟨y,hy⟩:∃y,l[j]? =some y:=⟨_,List.getElem?_eq_getElem DL⟩;obtain⟨b2,o2,e,h2⟩:=hp.out j y hy;injection e with e;injection e with e1 e2;subst e1 e2;exact .inr ⟨j,y,rfl,hide (by unfold yw;rw[if_neg DL,Nat.add_sub_cancel];exact hy),h2⟩
   have HP:=hide hpre;clear hpre;go_upto_region 9 with(first|((with_reducible refine jB ?_);refine vQ hM rfl (by first|exact rfl|(go_simp;done)) rfl (JK rfl) hat (uT rfl) ?_)|((with_reducible refine lX ?_);refine mL ?_)|((with_reducible refine sX ?_);refine mS ?_;clear hM;intro W hM)|((with_reducible refine bX ?_);refine mB ?_;clear hM;intro g W hM)|((with_reducible refine zX ?_);refine mB ?_;clear hM;intro g W hM));obtain⟨gx,rfl⟩:=Dy hM;clear hat;rcases hgp:x.gap with _|_;rotate_left 1
   ·(
      go_upto_region 10 with(first|((with_reducible refine lX ?_);refine mL ?_)|((with_reducible refine sX ?_);refine mS ?_;clear hM;intro W hM)|((with_reducible refine zX ?_);refine mB ?_;clear hM;intro g W hM))
      all_goals first
       |(exact absurd hgp (Bool.eq_false_iff.1 DM))
       |(exact absurd DM (Bool.eq_false_iff.1 hgp))
       |skip
      try simp only[pS,pN,sA,sB,sC]
      go_cut [34] (fun s wx=>∃V,s= .bool V∧Hid (V=(!jn x))∧qU w wx [(gx,x.cells,47),(gp,[.string pa,.string pb,.slice (some ⟨b,o,none⟩) l.length cap,Iv act],24)])
      case first=>
       go_wp2_with(first|((with_reducible refine aK ?_);refine Uf x rfl rfl rfl rfl ?_)|((with_reducible refine lX ?_);refine mL ?_)|((with_reducible refine sX ?_);refine mS ?_;clear hM;intro W hM)|((with_reducible refine zX ?_);refine mB ?_;clear hM;intro g W hM))
       all_goals
        go_meet
        (repeat apply Exists.intro)
        exact⟨rfl,hide (by rfl),hM⟩
      case rest=>
      clear hM;obtain⟨V10,rfl,HV10,hM⟩:=hcut;rcases hp10:jn x with _|_
      ·obtain rfl:V10=true:=by rw[HV10.out,hp10];rfl
       go_wp2_with(first|((with_reducible refine lX ?_);refine mL ?_)|((with_reducible refine sX ?_);refine mS ?_;clear hM;intro W hM)|((with_reducible refine zX ?_);refine mB ?_;clear hM;intro g W hM));go_ret;exact⟨qI (yG HF3 HG HX (Uj hgp hp10) (by first|decide|assumption)).symm,hM.below⟩
      obtain rfl:V10=false:=by rw[HV10.out,hp10];rfl
      go_upto_region 12 with(first|((with_reducible refine lX ?_);refine mL ?_)|((with_reducible refine sX ?_);refine mS ?_;clear hM;intro W hM)|((with_reducible refine zX ?_);refine mB ?_;clear hM;intro g W hM))
      try simp only[pS,pN,sA,sB,sC]
      go_cut [53] (fun s wx=>∃V,s= .bool V∧Hid (V=(decide (k+1=l.length)||Yz (yw l k)))∧qU w wx [(gx,x.cells,47),(gp,[.string pa,.string pb,.slice (some ⟨b,o,none⟩) l.length cap,Iv act],24)])
      case first=>
       rcases HP.out with h0|⟨j,y,rfl,hpv,hy⟩
       ·obtain⟨rfl,hpv⟩:=h0.out;have hlast:((0:Int)==(l.length:Int)-1)=decide (0+1=l.length):=by rw[Bool.eq_iff_iff];simp;omega
        go_wp2_with(first|((with_reducible refine lX ?_);refine mL ?_)|((with_reducible refine sX ?_);refine mS ?_;clear hM;intro W hM)|((with_reducible refine zX ?_);refine mB ?_;clear hM;intro g W hM))
        all_goals
         go_meet
         (repeat apply Exists.intro)
         exact⟨rfl,hide (by rw[hpv];simp[Yz]),hM⟩
       ·have hyg:=xA hy;have jb:(j:Int)≤60:=DL;have iw:IntKind.i64.wrap ((j:Int)+1-1)=j:=by rw[show(j:Int)+1-1=j by omega];exact IntWalk.i64_in _ DL
        have hz:((j:Int)+1==0)=false:=by simp;omega
        rcases hlast:decide (j+1+1=l.length)with _|_<;>rcases hyq:y.gap with _|_
        all_goals(
         have hl2:((j:Int)+1==(l.length:Int)-1)=decide (j+1+1=l.length):=by rw[Bool.eq_iff_iff];simp;omega
         rw[hlast]at hl2;rw[hyq]at hyg;clear hlast;go_wp2_with(first|((with_reducible refine jB ?_);refine xC hM rfl (by first|exact rfl|(go_simp;done)) rfl (wP rfl) hyg ?_)|((with_reducible refine lX ?_);refine mL ?_)|((with_reducible refine sX ?_);refine mS ?_;clear hM;intro W hM)|((with_reducible refine zX ?_);refine mB ?_;clear hM;intro g W hM))
         all_goals
          go_meet
          (repeat apply Exists.intro)
          exact⟨rfl,hide (by rw[hpv.out];simp_all[Yz]<;>omega),hM⟩)
      case rest=>
      clear hM;obtain⟨V12,rfl,HV12,hM⟩:=hcut;rcases V12 with _|_
      ·go_wp2_with(first|((with_reducible refine lX ?_);refine mL ?_)|((with_reducible refine sX ?_);refine mS ?_;clear hM;intro W hM)|((with_reducible refine zX ?_);refine mB ?_;clear hM;intro g W hM))
       all_goals first
       |(go_roundw;(case rel=>exact⟨k+1,la,by omega,rfl,by go_num,hide (bS HG HX (mP hgp hp10 HV12.out.symm)),zK hM⟩);(case measure=>simp[intOf];omega))
      ·go_wp2_with(first|((with_reducible refine lX ?_);refine mL ?_)|((with_reducible refine sX ?_);refine mS ?_;clear hM;intro W hM)|((with_reducible refine zX ?_);refine mB ?_;clear hM;intro g W hM));go_ret;exact⟨qI (yG HF3 HG HX (mO hgp hp10 HV12.out.symm) (by first|decide|assumption)).symm,hM.below⟩
    )
   ·(
      simp only[En.cells,hgp]at AL;obtain⟨E0,hE0⟩:∃E0,ku x=E0:=⟨_,rfl⟩;have HE:=hide hE0;rw[hE0]at AL;clear hE0;by_cases hne:E0=0;rotate_left 1
      ·have hnb:(E0 !=0)=true:=by simpa using hne
       go_wp2_with(first|(go_at_call 104;(with_reducible refine cb hM (AL _) ?_);clear hM;intro W1 hM)|((with_reducible refine lX ?_);refine mL ?_)|((with_reducible refine sX ?_);refine mS ?_;clear hM;intro W hM)|((with_reducible refine zX ?_);refine mB ?_;clear hM;intro g W hM))
       all_goals first
        |(exact absurd DM (Bool.eq_false_iff.1 hgp))
        |(go_ret;exact⟨qI ((yG HF3 HG HX (GY hgp (by rw[HE.out];exact hne)) (by rw[HE.out];exact hne)).trans HE.out).symm,hM.below⟩)
      subst hne;go_upto_region 17 with(first|(go_at_call 104;(with_reducible refine cb hM (AL _) ?_);clear hM;intro W1 hM)|((with_reducible refine lX ?_);refine mL ?_)|((with_reducible refine sX ?_);refine mS ?_;clear hM;intro W hM)|((with_reducible refine zX ?_);refine mB ?_;clear hM;intro g W hM))
      all_goals first
       |(exact absurd DM (Bool.eq_false_iff.1 hgp))
       |skip
      try simp only[pS,pN,sA,sB,sC]
      go_cut [69] (fun s wx=>∃V,s= .bool V∧Hid (V=Yz (yw l k))∧qU w wx [(gx,x.cells,47),(gp,[.string pa,.string pb,.slice (some ⟨b,o,none⟩) l.length cap,Iv act],24)])
      case first=>
       rcases HP.out with h0|⟨j,y,rfl,hpv,hy⟩
       ·obtain⟨rfl,hpv⟩:=h0.out;go_wp2_with(first|((with_reducible refine lX ?_);refine mL ?_)|((with_reducible refine sX ?_);refine mS ?_;clear hM;intro W hM)|((with_reducible refine zX ?_);refine mB ?_;clear hM;intro g W hM))
        all_goals
         go_meet
         (repeat apply Exists.intro)
         exact⟨rfl,hide (by rw[hpv];rfl),hM⟩
       ·have hyg:=xA hy;have jb:(j:Int)≤60:=DL;have iw:IntKind.i64.wrap ((j:Int)+1-1)=j:=by rw[show(j:Int)+1-1=j by omega];exact IntWalk.i64_in _ DL
        have hz:((j:Int)+1==0)=false:=by simp;omega
        go_wp2_with(first|((with_reducible refine jB ?_);refine xC hM rfl (by first|exact rfl|(go_simp;done)) rfl (wP rfl) hyg ?_)|((with_reducible refine lX ?_);refine mL ?_)|((with_reducible refine sX ?_);refine mS ?_;clear hM;intro W hM)|((with_reducible refine zX ?_);refine mB ?_;clear hM;intro g W hM))
        all_goals
         go_meet
         (repeat apply Exists.intro)
         exact⟨rfl,hide (by rw[hpv.out];rfl),hM⟩
      case rest=>
      clear hM;obtain⟨V17,rfl,HV17,hM⟩:=hcut;have ST:=fun W=>GW x.ty W
      rcases V17 with _|_;rotate_left 1
      ·have h17:=HV17.out.symm;have HS:=hide (GZ (lo:=decide (k+1=l.length)) (la:=la) hgp HE.out h17);clear h17;rcases hst:bM x.ty with _|_
       ·rw[hst]at ST;go_wp2_with(first|(go_at_call 105;(with_reducible refine(ST _).mono ?_);rintro e W1 ⟨rfl,rfl⟩)|((with_reducible refine lX ?_);refine mL ?_)|((with_reducible refine sX ?_);refine mS ?_;clear hM;intro W hM)|((with_reducible refine zX ?_);refine mB ?_;clear hM;intro g W hM));go_ret;exact⟨qI (yG HF3 HG HX (HS.out.trans (if_pos hst)) DQ).symm,hM.below⟩
       rw[hst]at ST;have HS2:Hid (yQ (yw l k) x (decide (k+1=l.length)) la=if x.sec<la then(9,la)else(0,x.sec)):=hide (by rw[HS.out,hst,if_neg DS]);clear HS hst;go_upto_region 25 with(first|(go_at_call 105;(with_reducible refine(ST _).mono ?_);rintro e W1 ⟨rfl,rfl⟩)|((with_reducible refine lX ?_);refine mL ?_)|((with_reducible refine sX ?_);refine mS ?_;clear hM;intro W hM)|((with_reducible refine zX ?_);refine mB ?_;clear hM;intro g W hM));by_cases hsec:x.sec<la
       ·go_wp2_with(first|((with_reducible refine lX ?_);refine mL ?_)|((with_reducible refine sX ?_);refine mS ?_;clear hM;intro W hM)|((with_reducible refine zX ?_);refine mB ?_;clear hM;intro g W hM))
        all_goals first
         |(exfalso;omega)
         |(go_ret;exact⟨qI (yG HF3 HG HX (HS2.out.trans (if_pos hsec)) DQ).symm,hM.below⟩)
       ·go_wp2_with(first|((with_reducible refine lX ?_);refine mL ?_)|((with_reducible refine sX ?_);refine mS ?_;clear hM;intro W hM)|((with_reducible refine zX ?_);refine mB ?_;clear hM;intro g W hM))
        all_goals first
         |(exfalso;omega)
         |(go_roundw;(case rel=>exact⟨k+1,x.sec,by omega,rfl,by go_num,hide (bS HG HX (HS2.out.trans (if_neg hsec))),zK hM⟩);(case measure=>simp[intOf];omega))
      ·rcases HP.out with h0|⟨j,y,rfl,hpv,hy⟩
       ·exfalso;have:=HV17.out;rw[h0.out.2]at this;cases this
       have hyg0:y.gap=false:=by
        have:=HV17.out;rw[hpv.out]at this;exact this.symm
       have HS:=hide (mQ (y:=y) (lo:=decide (j+1+1=l.length)) (la:=la) hgp HE.out hyg0);clear hyg0;have hyl:=QJ hy;have jb:(j:Int)≤60:=DL;have iw:IntKind.i64.wrap ((j:Int)+1-1)=j:=by rw[show(j:Int)+1-1=j by omega];exact IntWalk.i64_in _ DL
       have JO:=fun W=>wZ y x W
       have EN:=fun W=>cL y.ty W
       simp only[En.leg]at JO;have HPV:=hpv;go_upto_region 21 with(first|((with_reducible refine jB ?_);refine vQ hM rfl (by first|exact rfl|(go_simp;done)) rfl (JK rfl) hyl (uT rfl) ?_)|((with_reducible refine lX ?_);refine mL ?_)|((with_reducible refine sX ?_);refine mS ?_;clear hM;intro W hM)|((with_reducible refine zX ?_);refine mB ?_;clear hM;intro g W hM));obtain⟨gy,rfl⟩:=Dy hM;rcases hjo:Qj y x with _|_
       ·rw[hjo]at JO;go_wp2_with(first|(go_at_call 106;(with_reducible refine cb hM (JO _) ?_);clear hM;intro W1 hM)|((with_reducible refine lX ?_);refine mL ?_)|((with_reducible refine sX ?_);refine mS ?_;clear hM;intro W hM)|((with_reducible refine zX ?_);refine mB ?_;clear hM;intro g W hM));go_ret;exact⟨qI (yG HF3 HG HX ((by rw[hpv.out];exact HS.out.trans (if_pos hjo):yQ (yw l (j+1)) x (decide (j+1+1=l.length)) la=(9,la))) DQ).symm,hM.below⟩
       rw[hjo]at JO;go_upto_region 23 with(first|(go_at_call 106;(with_reducible refine cb hM (JO _) ?_);clear hM;intro W1 hM)|((with_reducible refine lX ?_);refine mL ?_)|((with_reducible refine sX ?_);refine mS ?_;clear hM;intro W hM)|((with_reducible refine zX ?_);refine mB ?_;clear hM;intro g W hM))
       try simp only[pS,pN,sA,sB,sC]
       go_cut [109] (fun s wx=>∃V,s= .bool V∧Hid (V=(decide (x.ty=2∨x.ty=4)&&kW y x))∧qU w wx ((gy,y.leg,44)::[(gx,x.cells,47),(gp,[.string pa,.string pb,.slice (some ⟨b,o,none⟩) l.length cap,Iv act],24)]))
       case first=>
        rcases har:ZY y.ty with _|_
        all_goals(
         rw[har]at EN
         have hty:((x.ty==2)=true∧decide (x.ty=2∨x.ty=4)=true)∨((x.ty==2)=false∧(x.ty==4)=true∧decide (x.ty=2∨x.ty=4)=true)∨((x.ty==2)=false∧(x.ty==4)=false∧decide (x.ty=2∨x.ty=4)=false):=by
          rcases h2:(x.ty==2)with _|_
          ·rcases h4:(x.ty==4)with _|_
           ·exact .inr (.inr ⟨rfl,rfl,by simp at h2 h4;simp[h2,h4]⟩)
           ·exact .inr (.inl ⟨rfl,rfl,by simp at h4;simp[h4]⟩)
          ·exact .inl ⟨rfl,by simp at h2;simp[h2]⟩
         rcases hty with⟨t2,td⟩|⟨t2,t4,td⟩|⟨t2,t4,td⟩
         all_goals(
          have HTD:=hide td;clear td;go_wp2_with(first|(go_at_call 107;(with_reducible refine(EN _).mono ?_);rintro e W1 ⟨rfl,rfl⟩)|((with_reducible refine lX ?_);refine mL ?_)|((with_reducible refine sX ?_);refine mS ?_;clear hM;intro W hM)|((with_reducible refine zX ?_);refine mB ?_;clear hM;intro g W hM))
          all_goals
           go_meet
           (repeat apply Exists.intro)
           exact⟨rfl,hide (by first|(rw[HTD.out];simp[kW,har,QI];done)|(rw[HTD.out,Bool.eq_iff_iff];simp[kW,har,QI];done)|(simp_all[kW,QI];done)),hM⟩))
       case rest=>
       clear hM;obtain⟨V23,rfl,HV23,hM⟩:=hcut;rcases V23 with _|_;rotate_left 1
       ·go_wp2_with(first|((with_reducible refine lX ?_);refine mL ?_)|((with_reducible refine sX ?_);refine mS ?_;clear hM;intro W hM)|((with_reducible refine zX ?_);refine mB ?_;clear hM;intro g W hM));go_ret;exact⟨qI (yG HF3 HG HX ((by rw[hpv.out,HS.out,hjo,if_neg DS,if_pos (by have h2:=HV23.out;simpa using h2.symm)]:yQ (yw l (j+1)) x (decide (j+1+1=l.length)) la=(7,la))) DQ).symm,hM.below⟩
       have HS2:Hid (yQ (yw l (j+1)) x (decide (j+1+1=l.length)) la=if x.sec<la then(9,la)else(0,x.sec)):=hide (by
        rw[hpv.out,HS.out,hjo,if_neg DS,if_neg (fun h=>by have h2:=HV23.out;rw[decide_eq_true h.1,h.2]at h2;cases h2)])
       clear HS hjo;go_upto_region 25 with(first|((with_reducible refine lX ?_);refine mL ?_)|((with_reducible refine sX ?_);refine mS ?_;clear hM;intro W hM)|((with_reducible refine zX ?_);refine mB ?_;clear hM;intro g W hM));by_cases hsec:x.sec<la
       ·go_wp2_with(first|((with_reducible refine lX ?_);refine mL ?_)|((with_reducible refine sX ?_);refine mS ?_;clear hM;intro W hM)|((with_reducible refine zX ?_);refine mB ?_;clear hM;intro g W hM))
        all_goals first
         |(exfalso;omega)
         |(go_ret;exact⟨qI (yG HF3 HG HX (HS2.out.trans (if_pos hsec)) DQ).symm,hM.below⟩)
       ·go_wp2_with(first|((with_reducible refine lX ?_);refine mL ?_)|((with_reducible refine sX ?_);refine mS ?_;clear hM;intro W hM)|((with_reducible refine zX ?_);refine mB ?_;clear hM;intro g W hM))
        all_goals first
         |(exfalso;omega)
         |(go_roundw;(case rel=>exact⟨j+1+1,x.sec,by omega,rfl,by go_num,hide (bS HG HX (HS2.out.trans (if_neg hsec))),zK (zK hM)⟩);(case measure=>simp[intOf];omega))
    )
   )
  ·(
   obtain rfl:k=l.length:=DL
   have HE:Hid (jR pa pb l act=if(act≠ -1∧(act<0∨act≥(l.length:Int)∨bJ l act=true))then 2 else 0):=hide (by
    have h0:=HG.out.trans (Uk DL la)
    rw[HF3.out,h0,if_neg DS])
   clear HG HF3;go_upto_region 29 with(first|((with_reducible refine lX ?_);refine mL ?_)|((with_reducible refine sX ?_);refine mS ?_;clear hM;intro W hM)|((with_reducible refine zX ?_);refine mB ?_;clear hM;intro g W hM))
   all_goals first
    |(exfalso;omega)
    |skip
   obtain⟨V29,hV29⟩:∃V,decide (act≠ -1∧(act<0∨act≥(l.length:Int)∨bJ l act=true))=V:=⟨_,rfl⟩;have HV:=hide hV29;clear hV29;go_cut [141] (fun s wx=>s= .bool V29∧qU w wx [(gp,[.string pa,.string pb,.slice S l.length cap,Iv act],24)])
   case first=>
    by_cases a1:act= -1
    ·have hv:V29=false:=by rw[←HV.out];exact decide_eq_false (fun h=>h.1 a1)
     subst a1 hv;clear HV;go_wp2_with(first|((with_reducible refine lX ?_);refine mL ?_)|((with_reducible refine sX ?_);refine mS ?_;clear hM;intro W hM)|((with_reducible refine zX ?_);refine mB ?_;clear hM;intro g W hM))
     all_goals
      go_meet;exact⟨by first|rfl|exact congrArg Value.bool (by simp_all[bne]),hM⟩
    have q1:(act== -1)=false:=by simpa using a1
    by_cases a2:act<0
    ·have hv:V29=true:=by rw[←HV.out];exact decide_eq_true ⟨a1,.inl a2⟩
     subst hv;clear HV;go_wp2_with(first|((with_reducible refine lX ?_);refine mL ?_)|((with_reducible refine sX ?_);refine mS ?_;clear hM;intro W hM)|((with_reducible refine zX ?_);refine mB ?_;clear hM;intro g W hM))
     all_goals
      go_meet;exact⟨by first|rfl|exact congrArg Value.bool (by simp_all[bne]),hM⟩
    by_cases a3:act≥(l.length:Int)
    ·have hv:V29=true:=by rw[←HV.out];exact decide_eq_true ⟨a1,.inr (.inl a3)⟩
     subst hv;clear HV;go_wp2_with(first|((with_reducible refine lX ?_);refine mL ?_)|((with_reducible refine sX ?_);refine mS ?_;clear hM;intro W hM)|((with_reducible refine zX ?_);refine mB ?_;clear hM;intro g W hM))
     all_goals
      go_meet;exact⟨by first|rfl|exact congrArg Value.bool (by simp_all[bne]),hM⟩
    obtain⟨n,rfl⟩:∃n:Nat,act=n:=⟨act.toNat,DL⟩;obtain⟨y,hy⟩:∃y,l[n]? =some y:=⟨_,List.getElem?_eq_getElem DL⟩;obtain⟨b,o,rfl,hat⟩:=hp.out n y hy;have hyg:=xA hat
    have hv:V29=y.gap:=by
     rw[←HV.out];have e:bJ l (n:Int)=y.gap:=by unfold bJ;rw[Int.toNat_natCast,hy]
     rw[e];rcases y.gap with _|_
     ·exact decide_eq_false (fun h=>by rcases h.2 with h|h|h<;>first|omega|cases h)
     ·exact decide_eq_true ⟨a1,.inr (.inr rfl)⟩
    subst hv;have n1:(n:Int)<(l.length:Int):=DL;clear HV a2 a3 hat hy;go_wp2_with(first|((with_reducible refine jB ?_);refine xC hM rfl (by first|exact rfl|(go_simp;done)) rfl (wP rfl) hyg ?_)|((with_reducible refine lX ?_);refine mL ?_)|((with_reducible refine sX ?_);refine mS ?_;clear hM;intro W hM)|((with_reducible refine zX ?_);refine mB ?_;clear hM;intro g W hM))
    all_goals
     go_meet;exact⟨by first|rfl|exact congrArg Value.bool (by simp[q1,show¬((n:Int)<0) by omega,show¬(l.length≤n) by omega]),hM⟩
   case rest=>
   clear hM;obtain⟨rfl,hM⟩:=hcut;rcases V29 with _|_
   ·have HE2:Hid (jR pa pb l act=0):=hide (by rw[HE.out,if_neg (of_decide_eq_false HV.out)]);clear HE HV;go_wp2_with(first|((with_reducible refine lX ?_);refine mL ?_)|((with_reducible refine sX ?_);refine mS ?_;clear hM;intro W hM)|((with_reducible refine zX ?_);refine mB ?_;clear hM;intro g W hM));go_ret;exact⟨qI HE2.out.symm,hM.below⟩
   ·have HE2:Hid (jR pa pb l act=2):=hide (by rw[HE.out,if_pos (of_decide_eq_true HV.out)]);clear HE HV;go_wp2_with(first|((with_reducible refine lX ?_);refine mL ?_)|((with_reducible refine sX ?_);refine mS ?_;clear hM;intro W hM)|((with_reducible refine zX ?_);refine mB ?_;clear hM;intro g W hM));go_ret;exact⟨qI HE2.out.symm,hM.below⟩
   )
theorem De{T:Tk}{q:Bool}(h:T.g=q):({T with g:=q}:Tk)=T:=by subst h;rfl
theorem Jq{pa pb:ByteArray}{l:List En}{act fx fy c spd bank oalt gr:Int}(h:jR pa pb l act=0)(h2:jY spd bank oalt gr=0)(h3:qw fx fy=true)(h4:c<0∨c≥129600000):zr pa pb l act fx fy c spd bank oalt gr=([],0,2):=Ys h h2 h3 (decide_eq_false DL)
set_option maxRecDepth 100000 in
set_option maxHeartbeats 16000000 in
theorem TW(pa pb:ByteArray)(S:Option Addr)(l:List En)(cap:Nat)(act fx fy c spd bank oalt gr:Int)(w:World)(ha:pa.size≤maxLen)(hb:pb.size≤maxLen)(hp:Hid (tL w S l))(hxs:Hid (∀(k:Nat) (x:En),l[k]? =some x→Tq x))(hc:qK c)(ho:qK oalt):
 Calls Tryz.prog 18 #[.agg #[.string pa,.string pb,.slice S l.length cap,Iv act],.agg #[Iv fx,Iv fy],Iv c,.agg #[Iv spd,Iv bank,Iv oalt,Iv gr]] w fun e w'=>∃V B,e= .returned (.tuple #[V,Iv (zr pa pb l act fx fy c spd bank oalt gr).2.1,Iv (zr pa pb l act fx fy c spd bank oalt gr).2.2])∧ZO 67 15 V (zr pa pb l act fx fy c spd bank oalt gr).1.length ((zr pa pb l act fx fy c spd bank oalt gr).1.flatMap Tk.cells) B∧qU w w' B:=by
 have PC:=fun W h1=>pg pa pb S l cap act W ha hb h1 hxs
 have OC:=fun W=>jC spd bank oalt gr W
 have PV:=fun W=>qL fx fy W
 obtain⟨R,hR⟩:∃R,zr pa pb l act fx fy c spd bank oalt gr=R:=⟨_,rfl⟩;rw[hR];obtain⟨E0,hE⟩:∃E0,jR pa pb l act=E0:=⟨_,rfl⟩;rw[hE]at PC;by_cases h1:E0=0;rotate_left 1
 ·have HR:Hid (R=([],0,E0)):=hide (by rw[←hR,←hE];exact Jo (by rw[hE];exact h1));have hne:(E0 !=0)=true:=by simpa using h1
  clear hE hR h1;have hM:=qE w;go_enter Tryz.func18,Tryz.ntmps18;go_wp2_with(first|(refine DU ?_;clear hM;intro g W hM)|(go_at_call 47;(refine(PC _ (hide (jw hM hp.out))).mono ?_);rintro e W1 ⟨rfl,hb⟩;replace hM:=qz hM hb;clear hb)|(refine qf (OC _) ?_;clear hM;intro W1 hM)|(refine qf (PV _) ?_;clear hM;intro W1 hM))
  all_goals
   go_ret3;exact⟨.slice none 0 0,[],by rw[HR.out];rfl,by rw[HR.out];exact .nil,vE hM⟩
 subst h1;obtain⟨E1,hE1⟩:∃E1,jY spd bank oalt gr=E1:=⟨_,rfl⟩;rw[hE1]at OC;by_cases h2:E1=0;rotate_left 1
 ·have HR:Hid (R=([],0,E1)):=hide (by rw[←hR,←hE1];exact Yr hE (by rw[hE1];exact h2));have hne:(E1 !=0)=true:=by simpa using h2
  clear hE hE1 hR h2;have hM:=qE w;go_enter Tryz.func18,Tryz.ntmps18;go_wp2_with(first|(refine DU ?_;clear hM;intro g W hM)|(go_at_call 47;(refine(PC _ (hide (jw hM hp.out))).mono ?_);rintro e W1 ⟨rfl,hb⟩;replace hM:=qz hM hb;clear hb)|(refine qf (OC _) ?_;clear hM;intro W1 hM)|(refine qf (PV _) ?_;clear hM;intro W1 hM))
  all_goals
   go_ret3;exact⟨.slice none 0 0,[],by rw[HR.out];rfl,by rw[HR.out];exact .nil,vE hM⟩
 subst h2;rcases h3:qw fx fy with _|_
 ·have HR:Hid (R=([],0,1)):=hide (by rw[←hR];exact Kb hE hE1 h3);rw[h3]at PV;clear hE hE1 hR h3;have hM:=qE w;go_enter Tryz.func18,Tryz.ntmps18;go_wp2_with(first|(refine DU ?_;clear hM;intro g W hM)|(go_at_call 47;(refine(PC _ (hide (jw hM hp.out))).mono ?_);rintro e W1 ⟨rfl,hb⟩;replace hM:=qz hM hb;clear hb)|(refine qf (OC _) ?_;clear hM;intro W1 hM)|(refine qf (PV _) ?_;clear hM;intro W1 hM))
  all_goals
   go_ret3;exact⟨.slice none 0 0,[],by rw[HR.out];rfl,by rw[HR.out];exact .nil,vE hM⟩
 rw[h3]at PV;by_cases h4:c<0
 ·have HR:Hid (R=([],0,2)):=hide (by rw[←hR];exact Jq hE hE1 h3 (.inl h4));clear hE hE1 hR h3;have hM:=qE w;go_enter Tryz.func18,Tryz.ntmps18;go_wp2_with(first|(refine DU ?_;clear hM;intro g W hM)|(go_at_call 47;(refine(PC _ (hide (jw hM hp.out))).mono ?_);rintro e W1 ⟨rfl,hb⟩;replace hM:=qz hM hb;clear hb)|(refine qf (OC _) ?_;clear hM;intro W1 hM)|(refine qf (PV _) ?_;clear hM;intro W1 hM))
  all_goals
   go_ret3;exact⟨.slice none 0 0,[],by rw[HR.out];rfl,by rw[HR.out];exact .nil,vE hM⟩
 by_cases h5:c≥129600000
 ·have HR:Hid (R=([],0,2)):=hide (by rw[←hR];exact Jq hE hE1 h3 (.inr h5));clear hE hE1 hR h3;have hM:=qE w;go_enter Tryz.func18,Tryz.ntmps18;go_wp2_with(first|(refine DU ?_;clear hM;intro g W hM)|(go_at_call 47;(refine(PC _ (hide (jw hM hp.out))).mono ?_);rintro e W1 ⟨rfl,hb⟩;replace hM:=qz hM hb;clear hb)|(refine qf (OC _) ?_;clear hM;intro W1 hM)|(refine qf (PV _) ?_;clear hM;intro W1 hM))
  all_goals
   go_ret3;exact⟨.slice none 0 0,[],by rw[HR.out];rfl,by rw[HR.out];exact .nil,vE hM⟩
 have h4b:decide (0≤c∧c<129600000)=true:=decide_eq_true DL;have HR0:=hide (hR.symm.trans (Kc hE hE1 h3 h4b));obtain⟨l60,hact⟩:=di hE;obtain⟨hbm,hbl⟩:=TU hact;have HBM:=hide hbm;clear hE hE1 hR h3 h4b hbm;have hM:=qE w;go_enter Tryz.func18,Tryz.ntmps18;go_upto_region 0 with fail;go_cut [4,5,7] (fun s4 s5 s7 wx=>∃gP gF gO,s4= .pointer (some ⟨gP,0,none⟩)∧s5= .pointer (some ⟨gF,0,none⟩)∧s7= .pointer (some ⟨gO,0,none⟩)∧qU w wx [(gO,[Iv spd,Iv bank,Iv oalt,Iv gr],28),(gF,[Iv fx,Iv fy],26),(gP,[.string pa,.string pb,.slice S l.length cap,Iv act],24)])
 case first=>
  go_wp2_with(first|(refine DU ?_;clear hM;intro g W hM)|(go_at_call 47;(refine(PC _ (hide (jw hM hp.out))).mono ?_);rintro e W1 ⟨rfl,hb⟩;replace hM:=qz hM hb;clear hb)|(refine qf (OC _) ?_;clear hM;intro W1 hM)|(refine qf (PV _) ?_;clear hM;intro W1 hM))
  all_goals
   go_meet;exact⟨_,_,_,rfl,rfl,rfl,hM⟩
 case rest=>
 clear hM;obtain⟨gP,gF,gO,rfl,rfl,rfl,hM⟩:=hcut;have HRK:=HR0;clear HR0;have hbm:=HBM.out.symm;go_wp2_with(first|(refine DU ?_;clear hM;intro g W hM)|(go_at_call 47;(refine(PC _ (hide (jw hM hp.out))).mono ?_);rintro e W1 ⟨rfl,hb⟩;replace hM:=qz hM hb;clear hb)|(refine qf (OC _) ?_;clear hM;intro W1 hM)|(refine qf (PV _) ?_;clear hM;intro W1 hM));clear hbm;go_loopw [2,13,14,15,16] (fun cc v al gp_ i W=>∃(k:Nat) (ck ak fxk fyk:Int) (B:List zw) (ts:List Tk) (Q:Bool),gp_= .bool Q∧Hid (Wp (yR l (zM act) k)=Q)∧zM act≤k∧k≤l.length∧ts.length≤k∧cc=Iv ck∧al=Iv ak∧i=Iv (k:Int)∧qK ck∧qK ak∧Hid (ZO 67 15 v ts.length (ts.flatMap Tk.cells) B)∧Hid (R=vZ ts (zS spd bank oalt gr (yR l (zM act) k) k fxk fyk ck ak (l.drop k)))∧qU w W ((gO,[Iv spd,Iv bank,Iv oalt,Iv gr],28)::(gF,[Iv fxk,Iv fyk],26)::(gP,[.string pa,.string pb,.slice S l.length cap,Iv act],24)::B)) (fun _ _ _ _ i _=>l.length-(intOf i).toNat)
 case atStart=>exact⟨zM act,c,oalt,fx,fy,[],[],false,rfl,hide (by unfold yR;rw[if_pos rfl];rfl),Nat.le_refl _,hbl,by simp,rfl,rfl,rfl,hc,ho,hide .nil,HRK,hM⟩
 case round=>
  clear hM HRK;obtain⟨k,ck,ak,fxk,fyk,B,ts,Q,rfl,HQ,hbk,hkl,hts,rfl,rfl,rfl,hck,hak,HO,HR,hM⟩:=hrel;by_cases hlt:k<l.length
  ·(
   obtain⟨x,hx⟩:∃x,l[k]? =some x:=⟨_,List.getElem?_eq_getElem hlt⟩;obtain⟨b,o,rfl,hat⟩:=hp.out k x hx;have hxw:=hxs.out k x hx;have HX:=hide hx;clear hx;go_upto_region 17 with(first|((with_reducible refine jB ?_);refine vQ hM rfl (by first|exact rfl|(go_simp;done)) rfl (JK rfl) hat (uT rfl) ?_)|(refine DU ?_;clear hM;intro g W hM));obtain⟨gx,rfl⟩:=Dy hM;clear hat;rcases hgp:x.gap with _|_;rotate_left 1
   · -- a discontinuity
     go_wp2_with(first|(refine DU ?_;clear hM;intro g W hM))
     all_goals first
      |(exact absurd hgp (Bool.eq_false_iff.1 DM))
      |(go_roundw;(case rel=>exact⟨k+1,ck,ak,fxk,fyk,B,ts,true,rfl,hide (by rw[xD HX.out hbk];exact hgp),by omega,by omega,by omega,rfl,rfl,by go_num,hck,hak,HO,hide (Um HX.out hbk hgp HR.out),zK hM⟩);(case measure=>simp[intOf];omega))
   obtain⟨y,hy⟩:∃y,(l[k+1]?).getD Qk=y:=⟨_,rfl⟩;have HY:=hide hy;clear hy;go_upto_if 60 with(first|(refine DU ?_;clear hM;intro g W hM))
   all_goals first
    |(exact absurd DM (Bool.eq_false_iff.1 hgp))
    |skip
   obtain⟨gt,rfl⟩:=Dy hM;refine qu ?_;go_cut [18] (fun s wx=>∃T:Tk,s= .pointer (some ⟨gt,0,none⟩)∧Hid (zx (yR l (zM act) k) fxk fyk ck ak x y spd bank oalt gr=({T with g:=Q},0))∧qU w wx ((gt,T.cells,67)::(gx,x.cells,47)::(gO,[Iv spd,Iv bank,Iv oalt,Iv gr],28)::(gF,[Iv fxk,Iv fyk],26)::(gP,[.string pa,.string pb,.slice (some ⟨b,o,none⟩) l.length cap,Iv act],24)::B))
   case first=>
    rcases Q with _|_;rotate_left 1
    ·have HT:=hide (show zx (yR l (zM act) k) fxk fyk ck ak x y spd bank oalt gr=(Ql x ck,0) by unfold zx;rw[if_pos HQ.out]);have ST:∀W,Calls _ _ _ _ _:=fun W=>kp x.ex x.ey x.ex x.ey ck W
     have e1:zf x.ex x.ey x.ex x.ey ck=pK 1 x.ex x.ey x.ex x.ey ck 0:=by unfold zf;rw[if_pos ⟨rfl,rfl⟩]
     rw[e1]at ST;clear e1;by_cases ht3:x.ty=3
     ·have q3:(x.ty==3)=true:=by simpa using ht3
      have HG:=hide (show Ql x ck=⟨1,x.ex,x.ey,x.ex,x.ey,0,0,0,0,0,x.crs,x.crs,0,0,true⟩ by unfold Ql;rw[if_pos ht3]);clear ht3;go_upto_region 23 with(first|(refine DU ?_;clear hM;intro g W hM)|(refine qf (ST _) ?_;clear hM;intro W1 hM));refine' yq hM DN (.tmp 18) rfl ?_ ?_;rotate_left 1;(·repeat constructor);(clear hM;intro W hM hK hne);refine kP 0 hM hK ?_;refine qu ?_;refine kP 1 hM hK ?_;refine qu ?_
      first|refine kL 2 hM hK ?_|refine kM 2 hM hK ?_
      refine qu ?_;refine kP 3 hM hK ?_;refine qu ?_;refine kP 4 hM hK ?_;refine qu ?_
      first|refine kL 5 hM hK ?_|refine kM 5 hM hK ?_
      refine qu ?_;refine kP 6 hM hK ?_;refine qu ?_;refine' jd hM (i:=7) (zF rfl) DN rfl rfl rfl ?_ ?_ ?_ ?_ ?_ ?_ ?_ hK hne ?_;rotate_left 6;(·constructor);(·repeat constructor);(·repeat constructor);(·repeat constructor);(·exact uT rfl);(·rfl);(·exact zO rfl);(clear hM hK;intro W hM hK);refine qu ?_;refine kP 8 hM hK ?_;refine qu ?_;refine' jd hM (i:=9) (zF rfl) DN rfl rfl rfl ?_ ?_ ?_ ?_ ?_ ?_ ?_ hK hne ?_;rotate_left 6;(·constructor);(·repeat constructor);(·repeat constructor);(·repeat constructor);(·exact uT rfl);(·rfl);(·exact zO rfl);(clear hM hK;intro W hM hK);refine qu ?_;refine qF DN ?_;go_wp2_with(first|(refine DU ?_;clear hM;intro g W hM))
      all_goals
       go_meet;exact⟨⟨1,x.ex,x.ey,x.ex,x.ey,0,0,0,0,0,x.crs,x.crs,0,0,false⟩,rfl,hide (HT.out.trans (by rw[HG.out])),hM⟩
     ·have q3:(x.ty==3)=false:=by simpa using ht3
      have HG:=hide (show Ql x ck=⟨1,x.ex,x.ey,x.ex,x.ey,0,0,0,0,0,ck,ck,0,0,true⟩ by unfold Ql;rw[if_neg ht3]);clear ht3;go_wp2_with(first|(refine DU ?_;clear hM;intro g W hM)|(refine qf (ST _) ?_;clear hM;intro W1 hM))
      all_goals
       go_meet;exact⟨⟨1,x.ex,x.ey,x.ex,x.ey,0,0,0,0,0,ck,ck,0,0,false⟩,rfl,hide (HT.out.trans (by rw[HG.out])),hM⟩
    ·have HT:=hide (show zx (yR l (zM act) k) fxk fyk ck ak x y spd bank oalt gr=qp fxk fyk ck ak x y spd bank oalt gr by unfold zx;rw[if_neg (by rw[HQ.out];simp)])
     have hyw:vT y:=by
      by_cases hl2:k+1<l.length
      ·have h1:l[k+1]? =some y:=by
        have h2:=HY.out;rw[List.getElem?_eq_getElem hl2]at h2⊢;exact congrArg some h2
       exact(hxs.out _ _ h1).w
      ·have h2:=HY.out;rw[List.getElem?_eq_none DL]at h2;rw[←h2];exact iB
     have RS:=fun W=>BK fxk fyk ck ak x y spd bank oalt gr hxw.w hyw hak hck W
     obtain⟨T,e,hTe⟩:∃T e,qp fxk fyk ck ak x y spd bank oalt gr=(T,e):=⟨_,_,rfl⟩;rw[hTe]at RS;have HT2:=hide (HT.out.trans hTe);simp only[En.cells,hgp]at RS;have HTR:=hide hTe;clear hTe HT;have kb:(k:Int)≤60:=DL;have iw:IntKind.i64.wrap ((k:Int)+1)=(k:Int)+1:=IntWalk.i64_in _ DL
     have hnext:Hid (k+1<l.length∧uz w b (o+(k+1)*20) y)∨Hid (l.length≤k+1∧y=Qk):=by
      by_cases hl2:k+1<l.length
      ·have h1:l[k+1]? =some y:=by
        have h2:=HY.out;rw[List.getElem?_eq_getElem hl2]at h2⊢;exact congrArg some h2
       obtain⟨b2,o2,e,h2⟩:=hp.out _ _ h1;injection e with e;injection e with e1 e2;subst e1 e2;exact .inl (hide ⟨hl2,h2⟩)
      ·have h2:=HY.out;rw[List.getElem?_eq_none DL]at h2;exact .inr (hide ⟨DL,h2.symm⟩)
     have HNE:=hide hnext;clear hnext;by_cases he:e=0
     ·subst he;have HT3:=hide (HT2.out.trans (congrArg (fun t=>(t,(0:Int))) (De (q:=false) (cQ HTR.out)).symm));rcases HNE.out with h|h
      ·have k1:(k:Int)+1<(l.length:Int):=by have:=h.out.1;omega
       have hatn:=h.out.2;clear HNE h;go_wp2_with(first|(refine qf (RS _) ?_;clear hM;intro W1 hM)|((with_reducible refine jB ?_);refine vQ hM rfl (by first|exact rfl|(go_simp;done)) rfl (JK rfl) hatn (uT rfl) ?_)|(refine DU ?_;clear hM;intro g W hM))
       all_goals
        go_meet;exact⟨T,rfl,HT3,zK hM⟩
      ·have k1:¬((k:Int)+1<(l.length:Int)):=by have:=h.out.1;omega
       obtain rfl:=h.out.2;simp only[Qk]at RS;clear HNE h;go_wp2_with(first|(refine qf (RS _) ?_;clear hM;intro W1 hM)|((with_reducible refine jB ?_);refine vQ hM rfl (by first|exact rfl|(go_simp;done)) rfl (JK rfl) hatn (uT rfl) ?_)|(refine DU ?_;clear hM;intro g W hM))
       all_goals
        go_meet;exact⟨T,rfl,HT3,zK hM⟩
     ·have HE:=hide (Un HX.out HY.out hgp HT2.out he HR.out);have hne:(e !=0)=true:=by simpa using he
      rcases HNE.out with h|h
      ·have k1:(k:Int)+1<(l.length:Int):=by have:=h.out.1;omega
       have hatn:=h.out.2;clear HNE h he;go_wp2_with(first|(refine qf (RS _) ?_;clear hM;intro W1 hM)|((with_reducible refine jB ?_);refine vQ hM rfl (by first|exact rfl|(go_simp;done)) rfl (JK rfl) hatn (uT rfl) ?_)|(refine DU ?_;clear hM;intro g W hM))
       all_goals
        go_ret3;exact⟨.slice none 0 0,[],by rw[HE.out];rfl,by rw[HE.out];exact .nil,vE hM⟩
      ·have k1:¬((k:Int)+1<(l.length:Int)):=by have:=h.out.1;omega
       obtain rfl:=h.out.2;simp only[Qk]at RS;clear HNE h he;go_wp2_with(first|(refine qf (RS _) ?_;clear hM;intro W1 hM)|((with_reducible refine jB ?_);refine vQ hM rfl (by first|exact rfl|(go_simp;done)) rfl (JK rfl) hatn (uT rfl) ?_)|(refine DU ?_;clear hM;intro g W hM))
       all_goals
        go_ret3;exact⟨.slice none 0 0,[],by rw[HE.out];rfl,by rw[HE.out];exact .nil,vE hM⟩
   case rest=>
   clear hM;obtain⟨T,rfl,HT,hM⟩:=hcut;have HQN:=hide (show Wp (yR l (zM act) (k+1))=false by rw[xD HX.out hbk];exact hgp);have hco:=Us (yR l (zM act) k) fxk fyk ak y spd bank oalt gr hck hxw.w.crs;have HNX:=hide (Uo HX.out HY.out hbk hgp HT.out HR.out)
   have hco2:qK T.co:=by
    have h2:=hco (by rw[HT.out]);rw[HT.out]at h2;exact h2
   have hup:qK (kK x ak):=aZ hak hxw.lo;have l61:k+1≤61:=DL;clear hco HT;go_upto_region 34 with(first|((with_reducible refine sH ?_);refine' KZ hM rfl rfl ?_ Tryz.underlying58 BS ?_ DQ DQ ?_;rotate_left 1;(·constructor);(·rfl);(clear hM;intro g W hM))|((with_reducible refine Bb ?_);refine' KX hM rfl rfl rfl rfl HO.out ?_ Tryz.underlying58 BS ?_ ?_ ?_ ?_ ?_ ?_ ?_;rotate_left 1;(·repeat constructor);rotate_left 2;(·repeat constructor);(·rfl);(·exact zO rfl);(·decide);(·omega);(·(unfold maxLen;omega));(clear hM;intro ga capA BA W HOA hM;simp only[List.cons_append,List.nil_append]at hM))|(refine DU ?_;clear hM;intro g W hM));refine' yq hM DN (.tmp 5) rfl ?_ ?_;rotate_left 1;(·repeat constructor);(clear hM;intro W hM hK hne);refine kP 0 hM hK ?_;refine qu ?_
   first|refine kL 1 hM hK ?_|refine kM 1 hM hK ?_
   refine qu ?_;refine kP 2 hM hK ?_;refine qu ?_
   first|refine kL 3 hM hK ?_|refine kM 3 hM hK ?_
   refine qu ?_;refine' jd hM (i:=4) (zF rfl) DN rfl rfl rfl ?_ ?_ ?_ ?_ ?_ ?_ ?_ hK hne ?_;rotate_left 6;(·constructor);(·repeat constructor);(·repeat constructor);(·repeat constructor);(·exact uT rfl);(·rfl);(·exact zO rfl);(clear hM hK;intro W hM hK);refine qu ?_;refine kP 5 hM hK ?_;refine qu ?_;refine qF DN ?_;by_cases hcl:x.ty=7∨x.ty=11∨x.ty=14
   ·have HU:=hide (show kK x ak=max ak x.lo by unfold kK;rw[if_pos hcl]);rcases hcl with h|h|h
    all_goals(
     have h7:(x.ty==7)=decide (x.ty=7):=rfl;have c7:(x.ty==7)=true∨(x.ty==7)=false:=by cases(x.ty==7)<;>simp
     have c11:(x.ty==11)=true∨(x.ty==11)=false:=by cases(x.ty==11)<;>simp
     have c14:(x.ty==14)=true∨(x.ty==14)=false:=by cases(x.ty==14)<;>simp
     clear h7;rcases c7 with c7|c7<;>rcases c11 with c11|c11<;>rcases c14 with c14|c14
     all_goals(
      first
       |(exfalso;simp at c7 c11 c14;omega)
       |(clear h
         go_wp2_with(first|(refine DU ?_;clear hM;intro g W hM))
         all_goals
          go_roundw
          case rel=>exact⟨k+1,T.co,kK x ak,T.bx,T.b_y,BA,ts++[{T with n:=(k:Int),g:=Q}],false,rfl,HQN,by omega,by omega,by simp;omega,rfl,by rw[HU.out],by go_num,hco2,hup,hide (Jp HOA rfl),HNX,zK (zK (zK hM))⟩
          case measure=>simp[intOf];omega)))
   ·have HU:=hide (show kK x ak=ak by unfold kK;rw[if_neg hcl]);have c7:(x.ty==7)=false:=by simp;omega
    have c11:(x.ty==11)=false:=by simp;omega
    have c14:(x.ty==14)=false:=by simp;omega
    clear hcl;go_wp2_with(first|(refine DU ?_;clear hM;intro g W hM))
    all_goals
     go_roundw
     case rel=>exact⟨k+1,T.co,kK x ak,T.bx,T.b_y,BA,ts++[{T with n:=(k:Int),g:=Q}],false,rfl,HQN,by omega,by omega,by simp;omega,rfl,by rw[HU.out],by go_num,hco2,hup,hide (Jp HOA rfl),HNX,zK (zK (zK hM))⟩
     case measure=>simp[intOf];omega
   )
  ·have HE:=hide (Uq DL HR.out);go_wp2_with(first|(refine DU ?_;clear hM;intro g W hM));go_ret3;exact⟨_,B,by rw[HE.out];rfl,by rw[HE.out];exact HO.out,zK (zK (zK hM))⟩
end Go.Proofs.YtcgpbnlhnafhjaaGreatDoor
