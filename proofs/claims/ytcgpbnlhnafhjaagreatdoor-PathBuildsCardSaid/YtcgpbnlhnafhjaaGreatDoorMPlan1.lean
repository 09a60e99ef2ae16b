/-
  Neq
-/
import Derived.Test.YtcgpbnlhnafhjaaGreatDoorMResD
namespace Go.Proofs.YtcgpbnlhnafhjaaGreatDoor
open Go.RowKit
set_option linter.unusedVariables false
set_option maxRecDepth 100000 in
set_option maxHeartbeats 2000000 in
theorem Wm(x:En)(w:World):(binOp .neq 47 (.agg #[.bool true,.int .u8 x.ty,.string x.fx,.string x.ct,.int .u8 x.tn,.bool x.ov,Iv x.crs,Iv x.dst,Iv x.rad,Iv x.tht,Iv x.lo,Iv x.hi,Iv x.spd,Iv x.rnp,Iv x.ex,Iv x.ey,Iv x.mx,Iv x.my,.int .u8 x.sec,.string x.via]) (.agg #[.bool true,.int .u8 0,.string ⟨#[]⟩,.string ⟨#[]⟩,.int .u8 0,.bool false,Iv 0,Iv 0,Iv 0,Iv 0,Iv 0,Iv 0,Iv 0,Iv 0,Iv 0,Iv 0,Iv 0,Iv 0,.int .u8 0,.string ⟨#[]⟩])).run Tryz.prog w= .ok (.bool (!jn x)) w:=by
 have s0:∀s:ByteArray,s.toList=[]↔s=⟨#[]⟩:=fun s=>by rw[Lib.toList_data];exact⟨vS,fun e=>by rw[e]⟩
 go_simp;clear s0;by_cases hty:x.ty=0;rotate_left 1
 ·rw[if_neg hty,show jn x=false by simp[jn,hty]];rfl
 rw[if_pos hty];by_cases hfx:x.fx=⟨#[]⟩;rotate_left 1
 ·rw[if_neg hfx,show jn x=false by simp[jn,hfx]];rfl
 rw[if_pos hfx];by_cases hct:x.ct=⟨#[]⟩;rotate_left 1
 ·rw[if_neg hct,show jn x=false by simp[jn,hct]];rfl
 rw[if_pos hct];by_cases htn:x.tn=0;rotate_left 1
 ·rw[if_neg htn,show jn x=false by simp[jn,htn]];rfl
 rw[if_pos htn];by_cases hov:x.ov=true
 ·rw[if_pos hov,show jn x=false by simp[jn,hov]];rfl
 rw[if_neg hov];by_cases hcrs:x.crs=0;rotate_left 1
 ·rw[if_neg hcrs,show jn x=false by simp[jn,hcrs]];rfl
 rw[if_pos hcrs];by_cases hdst:x.dst=0;rotate_left 1
 ·rw[if_neg hdst,show jn x=false by simp[jn,hdst]];rfl
 rw[if_pos hdst];by_cases hrad:x.rad=0;rotate_left 1
 ·rw[if_neg hrad,show jn x=false by simp[jn,hrad]];rfl
 rw[if_pos hrad];by_cases htht:x.tht=0;rotate_left 1
 ·rw[if_neg htht,show jn x=false by simp[jn,htht]];rfl
 rw[if_pos htht];by_cases hlo:x.lo=0;rotate_left 1
 ·rw[if_neg hlo,show jn x=false by simp[jn,hlo]];rfl
 rw[if_pos hlo];by_cases hhi:x.hi=0;rotate_left 1
 ·rw[if_neg hhi,show jn x=false by simp[jn,hhi]];rfl
 rw[if_pos hhi];by_cases hspd:x.spd=0;rotate_left 1
 ·rw[if_neg hspd,show jn x=false by simp[jn,hspd]];rfl
 rw[if_pos hspd];by_cases hrnp:x.rnp=0;rotate_left 1
 ·rw[if_neg hrnp,show jn x=false by simp[jn,hrnp]];rfl
 rw[if_pos hrnp];by_cases hex:x.ex=0;rotate_left 1
 ·rw[if_neg hex,show jn x=false by simp[jn,hex]];rfl
 rw[if_pos hex];by_cases hey:x.ey=0;rotate_left 1
 ·rw[if_neg hey,show jn x=false by simp[jn,hey]];rfl
 rw[if_pos hey];by_cases hmx:x.mx=0;rotate_left 1
 ·rw[if_neg hmx,show jn x=false by simp[jn,hmx]];rfl
 rw[if_pos hmx];by_cases hmy:x.my=0;rotate_left 1
 ·rw[if_neg hmy,show jn x=false by simp[jn,hmy]];rfl
 rw[if_pos hmy];by_cases hsec:x.sec=0;rotate_left 1
 ·rw[if_neg hsec,show jn x=false by simp[jn,hsec]];rfl
 rw[if_pos hsec];by_cases hvia:x.via=⟨#[]⟩;rotate_left 1
 ·rw[if_neg hvia,show jn x=false by simp[jn,hvia]];rfl
 rw[if_pos hvia];have hp:jn x=true:=by simp[jn,hty,hfx,hct,htn,hov,hcrs,hdst,hrad,htht,hlo,hhi,hspd,hrnp,hex,hey,hmx,hmy,hsec,hvia]
 rw[hp];rfl
section
variable{ops:Array Oper}{Q:Exit→Act→World→Prop}{a:Act}{w:World}{rest:List Oper}{o:Oper}
theorem aK{ty:TypeId}{P:Program}{d:Option Tmp}{x y:Operand}{rt:TypeId}{t:TypeId}{p:String}{l:Array Edge}{g:Option (Nat×Bool)}
 (h:wpList P ops Q ({dst:=d,op:= .binOp .neq ty x y rt,type:=t,pos:=p,after:=l,guard:=g}::rest) a w):wpList P ops Q ({dst:=d,op:= .binOp .neq ty x y rt,type:=t,pos:=p,after:=l,guard:=g}::rest) a w:=h
theorem Uf(x:En){p q:Operand}{rt:TypeId}(ho:o.op= .binOp .neq 47 p q rt)(hgd:o.guard=none)(hp:a.eval p= .agg #[.bool true,.int .u8 x.ty,.string x.fx,.string x.ct,.int .u8 x.tn,.bool x.ov,Iv x.crs,Iv x.dst,Iv x.rad,Iv x.tht,Iv x.lo,Iv x.hi,Iv x.spd,Iv x.rnp,Iv x.ex,Iv x.ey,Iv x.mx,Iv x.my,.int .u8 x.sec,.string x.via])
 (hq:a.eval q= .agg #[.bool true,.int .u8 0,.string ⟨#[]⟩,.string ⟨#[]⟩,.int .u8 0,.bool false,Iv 0,Iv 0,Iv 0,Iv 0,Iv 0,Iv 0,Iv 0,Iv 0,Iv 0,Iv 0,Iv 0,Iv 0,.int .u8 0,.string ⟨#[]⟩])
 (h:wpList Tryz.prog ops Q rest (a.put o.dst (.bool (!jn x))) w):wpList Tryz.prog ops Q (o::rest) a w:=
 wpList_plain hgd fun _ hK=>by
  have hr:=Wm x w;unfold Oper.wp execOp;simp only[ho,hp,hq,Sem.run_bind,run_eqGuard_agg (P:=Tryz.prog) w .neq 47 p q _ _ DN,Result.andThen_ok,hr];exact hK _ _ h
end
set_option maxRecDepth 100000
set_option maxHeartbeats 16000000
set_option linter.unusedSimpArgs false
theorem QI{s t:ByteArray}:s.toList=t.toList↔s=t:=by
 rw[Lib.toList_data,Lib.toList_data];constructor
 ·intro h
  cases s with
  |mk a=>
   cases t with
   |mk b=>
    simp at h;rw[h]
 ·intro h;rw[h]
theorem GS(s:ByteArray)(b:UInt8)(m:Int)(hs:s.size≤maxLen)(w:World):
 Calls Tryz.prog 144 #[.string s,.string ⟨#[b]⟩,Iv m] w (Qs (.bool (tk s.data.toList b m)) w):=by
 go_enter Tryz.func144,Tryz.ntmps144;go_wp2_with fail;refine(dc s b hs _).mono ?_;rintro e w1 ⟨x,y,f,rfl,hc,n,rfl⟩;have hsz:=Jk hc;have NX:=fun W=>YN x m DL W
 have NY:=fun W=>YN y m DL W
 rcases f with _|_
 ·have HP:=hide (aW hc m);clear hc hsz;rcases h1:yA x.data.toList m with _|_
  all_goals
   rw[h1]at NX HP;clear h1;go_wp2_with(first|(go_at_call 197;with_reducible refine(NX _).mono ?_;rintro e w2 ⟨rfl,rfl⟩));go_ret;exact⟨jh HP.out.symm,n,rfl⟩
 ·have HP:=hide (Ta hc m);clear hc hsz;rcases h1:yA x.data.toList m with _|_
  all_goals
   rw[h1]at NX HP;clear h1;rcases h2:yA y.data.toList m with _|_
   all_goals
    rw[h2]at NY HP;clear h2;go_wp2_with(first|(go_at_call 197;with_reducible refine(NX _).mono ?_;rintro e w2 ⟨rfl,rfl⟩)|(go_at_call 197;with_reducible refine(NY _).mono ?_;rintro e w2 ⟨rfl,rfl⟩));go_ret;exact⟨jh HP.out.symm,n,rfl⟩
theorem Ug(s:ByteArray)(hs:s.size≤maxLen)(w:World):
 Calls Tryz.prog 76 #[.string s] w (Qs (.bool (kO s)) w):=by
 by_cases h:s=⟨#[]⟩
 ·subst h;go_enter Tryz.func76,Tryz.ntmps76;go_wp2_with fail
  all_goals
   go_ret;exact⟨jh rfl,0,rfl⟩
 ·have HR:Hid (kO s=tk s.data.toList 47 6):=hide (by unfold kO;rw[decide_eq_false (fun e=>h (vS e))];rfl)
  have hl:s.toList=[]↔False:=by
   rw[Lib.toList_data];exact⟨fun e=>h (vS e),False.elim⟩
  have hl2:(s.toList==[])=false:=by
   rw[beq_eq_false_iff_ne];exact fun e=>hl.1 e
  have hl3:s.toList.isEmpty=false:=by
   cases hq:s.toList with
   |nil=>exact(hl.1 hq).elim
   |cons a b=>rfl
  clear h;have PA:=fun W=>GS s 47 6 hs W
  go_enter Tryz.func76,Tryz.ntmps76;go_wp2_with(first|(go_at_call 144;(with_reducible refine(PA _).mono ?_);rintro e w2 ⟨rfl,n,rfl⟩))
  all_goals first
   |(exfalso;simp_all;done)
   |(go_ret
     exact⟨jh HR.out.symm,_,rfl⟩)
theorem Wn(s:ByteArray)(hs:s.size≤maxLen)(w:World):
 Calls Tryz.prog 146 #[.string s] w (Qs (.bool (Bz s)) w):=by
 by_cases h:s=⟨#[]⟩
 ·subst h;go_enter Tryz.func146,Tryz.ntmps146;go_wp2_with fail
  all_goals
   go_ret;exact⟨jh rfl,0,rfl⟩
 ·have HR:Hid (Bz s=tk s.data.toList 46 8):=hide (by unfold Bz;rw[decide_eq_false (fun e=>h (vS e))];rfl)
  have hl:s.toList=[]↔False:=by
   rw[Lib.toList_data];exact⟨fun e=>h (vS e),False.elim⟩
  have hl2:(s.toList==[])=false:=by
   rw[beq_eq_false_iff_ne];exact fun e=>hl.1 e
  have hl3:s.toList.isEmpty=false:=by
   cases hq:s.toList with
   |nil=>exact(hl.1 hq).elim
   |cons a b=>rfl
  clear h;have PA:=fun W=>GS s 46 8 hs W
  go_enter Tryz.func146,Tryz.ntmps146;go_wp2_with(first|(go_at_call 144;(with_reducible refine(PA _).mono ?_);rintro e w2 ⟨rfl,n,rfl⟩))
  all_goals first
   |(exfalso;simp_all;done)
   |(go_ret
     exact⟨jh HR.out.symm,_,rfl⟩)
theorem Bv(t:Int)(w:World):Calls Tryz.prog 145 #[.int .u8 t] w fun e w'=>e= .returned (.bool (decide (1≤t∧t≤5)))∧w=w':=by
 obtain⟨V,hV⟩:∃V,decide (1≤t∧t≤5)=V:=⟨_,rfl⟩;rw[hV]
 have hcs:(decide (1≤t)=false∧V=false)∨(decide (1≤t)=true∧decide (t≤5)=V):=by
  by_cases h:1≤t
  ·exact .inr ⟨decide_eq_true h,by rw[←hV];exact decide_eq_decide.2 DL⟩
  ·exact .inl ⟨decide_eq_false h,by rw[←hV];exact decide_eq_false DL⟩
 clear hV;rcases hcs with⟨e1,rfl⟩|⟨e1,e2⟩
 ·go_enter Tryz.func145,Tryz.ntmps145;go_wp2_with fail
  all_goals
   go_ret;exact⟨rfl,rfl⟩
 ·go_enter Tryz.func145,Tryz.ntmps145;go_wp2_with fail
  all_goals
   go_ret
   first|exact⟨rfl,rfl⟩|exact⟨jh e2,rfl⟩
theorem wY(t:Int)(w:World):
 Calls Tryz.prog 78 #[.int .u8 t] w fun e w'=>e= .returned (.bool (bM t))∧w=w':=by
 go_enter Tryz.func78,Tryz.ntmps78;go_wp2_with fail
 all_goals
  go_ret;exact⟨jh (by unfold bM;(first|rfl|((try simp only[beq_iff_eq,beq_eq_false_iff_ne,bne_iff_ne,bne_eq_false_iff_eq,ne_eq,decide_eq_true_eq,decide_eq_false_iff_not,Bool.not_eq_true]at*);first|omega|(refine(decide_eq_true ?_).symm;omega)|(refine(decide_eq_false ?_).symm;omega)|(refine decide_eq_decide.2 ?_;omega)|(rw[Bool.eq_iff_iff];simp only[Bool.or_eq_true,Bool.and_eq_true,beq_iff_eq,bne_iff_ne,ne_eq,decide_eq_true_eq,Bool.not_eq_true',decide_eq_false_iff_not];omega)))),rfl⟩
theorem aP(t:Int)(w:World):
 Calls Tryz.prog 149 #[.int .u8 t] w fun e w'=>e= .returned (.bool (ZY t))∧w=w':=by
 go_enter Tryz.func149,Tryz.ntmps149;go_wp2_with fail
 all_goals
  go_ret;exact⟨jh (by unfold ZY;(first|rfl|((try simp only[beq_iff_eq,beq_eq_false_iff_ne,bne_iff_ne,bne_eq_false_iff_eq,ne_eq,decide_eq_true_eq,decide_eq_false_iff_not,Bool.not_eq_true]at*);first|omega|(refine(decide_eq_true ?_).symm;omega)|(refine(decide_eq_false ?_).symm;omega)|(refine decide_eq_decide.2 ?_;omega)|(rw[Bool.eq_iff_iff];simp only[Bool.or_eq_true,Bool.and_eq_true,beq_iff_eq,bne_iff_ne,ne_eq,decide_eq_true_eq,Bool.not_eq_true',decide_eq_false_iff_not];omega)))),rfl⟩
theorem aQ(t:Int)(w:World):
 Calls Tryz.prog 148 #[.int .u8 t] w fun e w'=>e= .returned (.bool (QZ t))∧w=w':=by
 go_enter Tryz.func148,Tryz.ntmps148;go_wp2_with fail
 all_goals
  go_ret;exact⟨jh (by unfold QZ;(first|rfl|((try simp only[beq_iff_eq,beq_eq_false_iff_ne,bne_iff_ne,bne_eq_false_iff_eq,ne_eq,decide_eq_true_eq,decide_eq_false_iff_not,Bool.not_eq_true]at*);first|omega|(refine(decide_eq_true ?_).symm;omega)|(refine(decide_eq_false ?_).symm;omega)|(refine decide_eq_decide.2 ?_;omega)|(rw[Bool.eq_iff_iff];simp only[Bool.or_eq_true,Bool.and_eq_true,beq_iff_eq,bne_iff_ne,ne_eq,decide_eq_true_eq,Bool.not_eq_true',decide_eq_false_iff_not];omega)))),rfl⟩
theorem GU(a b:Int)(w:World):
 Calls Tryz.prog 147 #[.int .u8 a,.int .u8 b] w fun e w'=>e= .returned (.bool (yY a b))∧w=w':=by
 by_cases ha:a<1∨17<a
 ·have KA:=fun W=>Vo a W ha
  have HR:Hid (yY a b=false):=hide (decide_eq_false DL);clear ha;go_enter Tryz.func147,Tryz.ntmps147;go_wp2_with refine DG (KA _) ?_
  all_goals
   go_ret;exact⟨jh HR.out.symm,rfl⟩
 have KA:=fun W=>ym a W DL DL
 by_cases hb:b<1∨17<b
 ·have KB:=fun W=>Vo b W hb
  have HR:Hid (yY a b=false):=hide (decide_eq_false DL);clear ha hb;go_enter Tryz.func147,Tryz.ntmps147;go_wp2_with(first|refine DG (KA _) ?_|refine DG (KB _) ?_)
  all_goals
   go_ret;exact⟨jh HR.out.symm,rfl⟩
 have KB:=fun W=>ym b W DL DL
 have a1:1≤a:=DL;have a2:a≤17:=DL;have b1:1≤b:=DL;have b2:b≤17:=DL;clear ha hb;go_enter Tryz.func147,Tryz.ntmps147;go_wp2_with(first|refine DG (KA _) ?_|refine DG (KB _) ?_)
 all_goals
  go_ret;exact⟨jh (by unfold yY;(first|rfl|((try simp only[beq_iff_eq,beq_eq_false_iff_ne,bne_iff_ne,bne_eq_false_iff_eq,ne_eq,decide_eq_true_eq,decide_eq_false_iff_not,Bool.not_eq_true]at*);first|omega|(refine(decide_eq_true ?_).symm;omega)|(refine(decide_eq_false ?_).symm;omega)|(refine decide_eq_decide.2 ?_;omega)|(rw[Bool.eq_iff_iff];simp only[Bool.or_eq_true,Bool.and_eq_true,beq_iff_eq,bne_iff_ne,ne_eq,decide_eq_true_eq,Bool.not_eq_true',decide_eq_false_iff_not];omega)))),rfl⟩
theorem cJ(y x:En)(w:World):
 Calls Tryz.prog 79 #[.agg y.leg.toArray,.agg x.leg.toArray] w fun e w'=>e= .returned (.bool (Qj y x))∧Below w.heap.size w w':=by
 have FO:=fun W=>GU y.ty x.ty W
 have FR:=fun W=>aQ x.ty W
 have HR:=hide (show Qj y x=(yY y.ty x.ty&&(!QZ x.ty||decide (y.fx=x.fx)))from rfl);rcases h1:yY y.ty x.ty with _|_<;>rcases h2:QZ x.ty with _|_
 all_goals
  rw[h1]at FO HR;rw[h2]at FR HR;clear h1 h2;have hM:=qE w;go_enter Tryz.func79,Tryz.ntmps79;go_wp2_with(first|(go_at_call 147;(with_reducible refine(FO _).mono ?_);rintro e W1 ⟨rfl,rfl⟩)|(go_at_call 148;(with_reducible refine(FR _).mono ?_);rintro e W1 ⟨rfl,rfl⟩)|((with_reducible refine lX ?_);refine mL ?_)|((with_reducible refine sX ?_);refine mS ?_;clear hM;intro W hM)|((with_reducible refine bX ?_);refine mB ?_;clear hM;intro g W hM)|((with_reducible refine zX ?_);refine mB ?_;clear hM;intro g W hM))
  all_goals
   go_ret;exact⟨jh (by rw[HR.out];first|rfl|(simp;done)|(rw[Bool.eq_iff_iff];simp[QI])),hM.below⟩
theorem GV(y x:En)(w:World):
 Calls Tryz.prog 80 #[.agg y.leg.toArray,.agg x.leg.toArray] w fun e w'=>e= .returned (.bool (kW y x))∧Below w.heap.size w w':=by
 have EN:=fun W=>aP y.ty W
 have HR:=hide (show kW y x=(ZY y.ty&&decide (y.fx=x.fx))from rfl);rcases h1:ZY y.ty with _|_
 all_goals
  rw[h1]at EN HR;clear h1;have hM:=qE w;go_enter Tryz.func80,Tryz.ntmps80;go_wp2_with(first|(refine DU ?_;clear hM;intro g W hM)|refine DG (EN _) ?_)
  all_goals
   go_ret;exact⟨jh (by rw[HR.out];first|rfl|(simp;done)|(rw[Bool.eq_iff_iff];simp[QI])),hM.below⟩
theorem JT{s:ByteArray}(h:s≠⟨#[]⟩):(s.toList=[]↔False)∧(s.toList==[])=false∧s.toList.isEmpty=false:=by
 have hl:s.toList=[]↔False:=by
  rw[Lib.toList_data];exact⟨fun e=>h (vS e),False.elim⟩
 refine⟨hl,?_,?_⟩
 ·rw[beq_eq_false_iff_ne];exact fun e=>hl.1 e
 ·cases hq:s.toList with
  |nil=>exact(hl.1 hq).elim
  |cons a b=>rfl
theorem Pd(a b:Int):((a==0)=true∧(b==0)=true∧(a=0∧b=0))∨((a==0)=false∧¬(a=0∧b=0))∨((a==0)=true∧(b==0)=false∧¬(a=0∧b=0)):=by
 rcases h1:(a==0)with _|_
 ·exact .inr (.inl ⟨rfl,fun e=>by rw[e.1]at h1;cases h1⟩)
 ·rcases h2:(b==0)with _|_
  ·exact .inr (.inr ⟨rfl,rfl,fun e=>by rw[e.2]at h2;cases h2⟩)
  ·exact .inl ⟨rfl,rfl,by simpa using h1,by simpa using h2⟩
theorem Yl(fx ct:ByteArray)(a b c d:Int):∃V:Bool,Hid (V=true↔((fx=⟨#[]⟩∧¬(a=0∧b=0))∨(ct=⟨#[]⟩∧¬(c=0∧d=0))))∧((fx≠⟨#[]⟩∧ct≠⟨#[]⟩∧V=false)∨(fx≠⟨#[]⟩∧ct=⟨#[]⟩∧(c==0)=true∧(d==0)=true∧V=false)∨(fx≠⟨#[]⟩∧ct=⟨#[]⟩∧(c==0)=false∧V=true)∨(fx≠⟨#[]⟩∧ct=⟨#[]⟩∧(c==0)=true∧(d==0)=false∧V=true)∨(fx=⟨#[]⟩∧(a==0)=false∧V=true)∨(fx=⟨#[]⟩∧(a==0)=true∧(b==0)=false∧V=true)∨(fx=⟨#[]⟩∧(a==0)=true∧(b==0)=true∧ct≠⟨#[]⟩∧V=false)∨(fx=⟨#[]⟩∧(a==0)=true∧(b==0)=true∧ct=⟨#[]⟩∧(c==0)=true∧(d==0)=true∧V=false)∨(fx=⟨#[]⟩∧(a==0)=true∧(b==0)=true∧ct=⟨#[]⟩∧(c==0)=false∧V=true)∨(fx=⟨#[]⟩∧(a==0)=true∧(b==0)=true∧ct=⟨#[]⟩∧(c==0)=true∧(d==0)=false∧V=true)):=by
 by_cases hf:fx=⟨#[]⟩<;>by_cases hc:ct=⟨#[]⟩<;>rcases Pd a b with⟨e1,e2,ez⟩|⟨e1,ez⟩|⟨e1,e2,ez⟩<;>rcases Pd c d with⟨m1,m2,mz⟩|⟨m1,mz⟩|⟨m1,m2,mz⟩
 all_goals first
  |exact⟨false,hide (by simp[hf,hc,ez,mz]),.inl ⟨hf,hc,rfl⟩⟩
  |exact⟨false,hide (by simp[hf,hc,ez,mz]),.inr (.inl ⟨hf,hc,m1,m2,rfl⟩)⟩
  |exact⟨true,hide (by simp[hf,hc,ez,mz]),.inr (.inr (.inl ⟨hf,hc,m1,rfl⟩))⟩
  |exact⟨true,hide (by simp[hf,hc,ez,mz]),.inr (.inr (.inr (.inl ⟨hf,hc,m1,m2,rfl⟩)))⟩
  |exact⟨true,hide (by simp[hf,hc,ez,mz]),.inr (.inr (.inr (.inr (.inl ⟨hf,e1,rfl⟩))))⟩
  |exact⟨true,hide (by simp[hf,hc,ez,mz]),.inr (.inr (.inr (.inr (.inr (.inl ⟨hf,e1,e2,rfl⟩)))))⟩
  |exact⟨false,hide (by simp[hf,hc,ez,mz]),.inr (.inr (.inr (.inr (.inr (.inr (.inl ⟨hf,e1,e2,hc,rfl⟩))))))⟩
  |exact⟨false,hide (by simp[hf,hc,ez,mz]),.inr (.inr (.inr (.inr (.inr (.inr (.inr (.inl ⟨hf,e1,e2,hc,m1,m2,rfl⟩)))))))⟩
  |exact⟨true,hide (by simp[hf,hc,ez,mz]),.inr (.inr (.inr (.inr (.inr (.inr (.inr (.inr (.inl ⟨hf,e1,e2,hc,m1,rfl⟩))))))))⟩
  |exact⟨true,hide (by simp[hf,hc,ez,mz]),.inr (.inr (.inr (.inr (.inr (.inr (.inr (.inr (.inr (⟨hf,e1,e2,hc,m1,m2,rfl⟩)))))))))⟩
set_option maxRecDepth 100000 in
set_option maxHeartbeats 8000000 in
theorem cK(x:En)(hx:Tq x)(w:World)(hu:Hid (jP w)):
 Calls Tryz.prog 77 #[.agg x.cells.toArray] w fun e w'=>e= .returned (Iv (ku x))∧Below w.heap.size w w':=by
 have LC:=fun W hW=>je x hx.w.leg W hW
 have SE:=fun W=>Bv x.sec W
 have WA:=fun W=>Wn x.via hx.via W
 have P1:=fun W=>qQ x.ex x.ey W
 have P2:=fun W=>qQ x.mx x.my W
 obtain⟨E0,hE⟩:∃E0,zU x=E0:=⟨_,rfl⟩;obtain⟨R,hR⟩:∃R,ku x=R:=⟨_,rfl⟩;have HT:=hide hR;unfold ku at hR;rw[hE]at LC hR;clear hE;by_cases hL:E0=0;rotate_left 1
 ·rw[if_pos hL]at hR;subst hR;have hne:(E0 !=0)=true:=by simpa using hL
  clear hL;have hM:=qE w;go_enter Tryz.func77,Tryz.ntmps77;go_wp2_with(first|(go_at_call 81;(refine(LC _ (hide (qV hM hu.out))).mono ?_);rintro e W1 ⟨rfl,hb⟩;replace hM:=qz hM hb;clear hb)|(go_at_call 145;(with_reducible refine(SE _).mono ?_);rintro e W1 ⟨rfl,rfl⟩)|(go_at_call 146;(with_reducible refine(WA _).mono ?_);rintro e W1 ⟨rfl,hq⟩;replace hM:=zj hM hq;clear hq)|(go_at_call 30;(with_reducible refine cb hM (P1 _) ?_);clear hM;intro W1 hM)|(go_at_call 30;(with_reducible refine cb hM (P2 _) ?_);clear hM;intro W1 hM)|((with_reducible refine lX ?_);refine mL ?_)|((with_reducible refine sX ?_);refine mS ?_;clear hM;intro W hM)|((with_reducible refine bX ?_);refine mB ?_;clear hM;intro g W hM)|((with_reducible refine zX ?_);refine mB ?_;clear hM;intro g W hM))
  all_goals first
   |(go_ret;exact⟨qI HT.out.symm,hM.below⟩;done)
   |(exfalso;simp_all;done)
 subst hL;rw[if_neg DS]at hR;by_cases hs:x.sec<1∨x.sec>5
 ·rw[if_pos hs]at hR;subst hR;rw[decide_eq_false DL]at SE;clear hs;have hM:=qE w;go_enter Tryz.func77,Tryz.ntmps77;go_wp2_with(first|(go_at_call 81;(refine(LC _ (hide (qV hM hu.out))).mono ?_);rintro e W1 ⟨rfl,hb⟩;replace hM:=qz hM hb;clear hb)|(go_at_call 145;(with_reducible refine(SE _).mono ?_);rintro e W1 ⟨rfl,rfl⟩)|(go_at_call 146;(with_reducible refine(WA _).mono ?_);rintro e W1 ⟨rfl,hq⟩;replace hM:=zj hM hq;clear hq)|(go_at_call 30;(with_reducible refine cb hM (P1 _) ?_);clear hM;intro W1 hM)|(go_at_call 30;(with_reducible refine cb hM (P2 _) ?_);clear hM;intro W1 hM)|((with_reducible refine lX ?_);refine mL ?_)|((with_reducible refine sX ?_);refine mS ?_;clear hM;intro W hM)|((with_reducible refine bX ?_);refine mB ?_;clear hM;intro g W hM)|((with_reducible refine zX ?_);refine mB ?_;clear hM;intro g W hM))
  all_goals first
   |(go_ret;exact⟨qI HT.out.symm,hM.below⟩;done)
   |(exfalso;simp_all;done)
 rw[if_neg hs]at hR;rw[decide_eq_true DL]at SE;clear hs;rcases hw:Bz x.via with _|_
 ·rw[hw,if_pos rfl]at hR;rw[hw]at WA;subst hR;clear hw;have hM:=qE w;go_enter Tryz.func77,Tryz.ntmps77;go_wp2_with(first|(go_at_call 81;(refine(LC _ (hide (qV hM hu.out))).mono ?_);rintro e W1 ⟨rfl,hb⟩;replace hM:=qz hM hb;clear hb)|(go_at_call 145;(with_reducible refine(SE _).mono ?_);rintro e W1 ⟨rfl,rfl⟩)|(go_at_call 146;(with_reducible refine(WA _).mono ?_);rintro e W1 ⟨rfl,hq⟩;replace hM:=zj hM hq;clear hq)|(go_at_call 30;(with_reducible refine cb hM (P1 _) ?_);clear hM;intro W1 hM)|(go_at_call 30;(with_reducible refine cb hM (P2 _) ?_);clear hM;intro W1 hM)|((with_reducible refine lX ?_);refine mL ?_)|((with_reducible refine sX ?_);refine mS ?_;clear hM;intro W hM)|((with_reducible refine bX ?_);refine mB ?_;clear hM;intro g W hM)|((with_reducible refine zX ?_);refine mB ?_;clear hM;intro g W hM))
  all_goals first
   |(go_ret;exact⟨qI HT.out.symm,hM.below⟩;done)
   |(exfalso;simp_all;done)
 rw[hw,if_neg DS]at hR;rw[hw]at WA;clear hw;rcases v1:qw x.ex x.ey with _|_
 ·rw[v1,if_pos DS]at hR;rw[v1]at P1;subst hR;clear v1;have hM:=qE w;go_enter Tryz.func77,Tryz.ntmps77;go_wp2_with(first|(go_at_call 81;(refine(LC _ (hide (qV hM hu.out))).mono ?_);rintro e W1 ⟨rfl,hb⟩;replace hM:=qz hM hb;clear hb)|(go_at_call 145;(with_reducible refine(SE _).mono ?_);rintro e W1 ⟨rfl,rfl⟩)|(go_at_call 146;(with_reducible refine(WA _).mono ?_);rintro e W1 ⟨rfl,hq⟩;replace hM:=zj hM hq;clear hq)|(go_at_call 30;(with_reducible refine cb hM (P1 _) ?_);clear hM;intro W1 hM)|(go_at_call 30;(with_reducible refine cb hM (P2 _) ?_);clear hM;intro W1 hM)|((with_reducible refine lX ?_);refine mL ?_)|((with_reducible refine sX ?_);refine mS ?_;clear hM;intro W hM)|((with_reducible refine bX ?_);refine mB ?_;clear hM;intro g W hM)|((with_reducible refine zX ?_);refine mB ?_;clear hM;intro g W hM))
  all_goals first
   |(go_ret;exact⟨qI HT.out.symm,hM.below⟩;done)
   |(exfalso;simp_all;done)
 rcases v2:qw x.mx x.my with _|_
 ·rw[v1,v2,if_pos DS]at hR;rw[v1]at P1;rw[v2]at P2;subst hR;clear v1 v2;have hM:=qE w;go_enter Tryz.func77,Tryz.ntmps77;go_wp2_with(first|(go_at_call 81;(refine(LC _ (hide (qV hM hu.out))).mono ?_);rintro e W1 ⟨rfl,hb⟩;replace hM:=qz hM hb;clear hb)|(go_at_call 145;(with_reducible refine(SE _).mono ?_);rintro e W1 ⟨rfl,rfl⟩)|(go_at_call 146;(with_reducible refine(WA _).mono ?_);rintro e W1 ⟨rfl,hq⟩;replace hM:=zj hM hq;clear hq)|(go_at_call 30;(with_reducible refine cb hM (P1 _) ?_);clear hM;intro W1 hM)|(go_at_call 30;(with_reducible refine cb hM (P2 _) ?_);clear hM;intro W1 hM)|((with_reducible refine lX ?_);refine mL ?_)|((with_reducible refine sX ?_);refine mS ?_;clear hM;intro W hM)|((with_reducible refine bX ?_);refine mB ?_;clear hM;intro g W hM)|((with_reducible refine zX ?_);refine mB ?_;clear hM;intro g W hM))
  all_goals first
   |(go_ret;exact⟨qI HT.out.symm,hM.below⟩;done)
   |(exfalso;simp_all;done)
 rw[v1,v2,if_neg DS]at hR;rw[v1]at P1;rw[v2]at P2;clear v1 v2;obtain⟨V,HV,hcs⟩:=Yl x.fx x.ct x.ex x.ey x.mx x.my;have hM:=qE w;go_enter Tryz.func77,Tryz.ntmps77;go_upto_region 10 with(first|(go_at_call 81;(refine(LC _ (hide (qV hM hu.out))).mono ?_);rintro e W1 ⟨rfl,hb⟩;replace hM:=qz hM hb;clear hb)|(go_at_call 145;(with_reducible refine(SE _).mono ?_);rintro e W1 ⟨rfl,rfl⟩)|(go_at_call 146;(with_reducible refine(WA _).mono ?_);rintro e W1 ⟨rfl,hq⟩;replace hM:=zj hM hq;clear hq)|(go_at_call 30;(with_reducible refine cb hM (P1 _) ?_);clear hM;intro W1 hM)|(go_at_call 30;(with_reducible refine cb hM (P2 _) ?_);clear hM;intro W1 hM)|((with_reducible refine lX ?_);refine mL ?_)|((with_reducible refine sX ?_);refine mS ?_;clear hM;intro W hM)|((with_reducible refine bX ?_);refine mB ?_;clear hM;intro g W hM)|((with_reducible refine zX ?_);refine mB ?_;clear hM;intro g W hM));obtain⟨gx,rfl⟩:=Dy hM;go_cut [31] (fun s wx=>s= .bool V∧qU w wx [(gx,x.cells,47)])
 case first=>
  rcases hcs with⟨hf,hc,rfl⟩|⟨hf,hc,m1,m2,rfl⟩|⟨hf,hc,m1,rfl⟩|⟨hf,hc,m1,m2,rfl⟩|⟨hf,e1,rfl⟩|⟨hf,e1,e2,rfl⟩|⟨hf,e1,e2,hc,rfl⟩|⟨hf,e1,e2,hc,m1,m2,rfl⟩|⟨hf,e1,e2,hc,m1,rfl⟩|⟨hf,e1,e2,hc,m1,m2,rfl⟩
  all_goals(
   try(have hf2:=JT hf;obtain⟨f1,f2,f3⟩:=hf2;clear hf)
   try(have hc2:=JT hc;obtain⟨c1,c2,c3⟩:=hc2;clear hc)
   go_wp2_with(first|((with_reducible refine lX ?_);refine mL ?_))
   all_goals first
    |(go_meet;exact⟨rfl,hM⟩;done)
    |(exfalso;simp_all;done))
 case rest=>
 clear hM;obtain⟨rfl,hM⟩:=hcut;rcases V with _|_
 ·rw[if_neg (fun h=>by have:=HV.out.2 h;cases this)]at hR;subst hR;go_wp2_with fail;go_ret;exact⟨qI HT.out.symm,hM.below⟩
 ·rw[if_pos (HV.out.1 rfl)]at hR;subst hR;go_wp2_with fail;go_ret;exact⟨qI HT.out.symm,hM.below⟩
end Go.Proofs.YtcgpbnlhnafhjaaGreatDoor
