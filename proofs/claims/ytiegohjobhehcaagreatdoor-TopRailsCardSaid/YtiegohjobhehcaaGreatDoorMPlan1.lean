/-
  Neq
-/
import Derived.Test.YtiegohjobhehcaaGreatDoorMResD
import Derived.Test.YtiegohjobhehcaaGreatDoorMMemD
namespace Go.Proofs.YtiegohjobhehcaaGreatDoor
open Go.RowKit
set_option linter.unusedVariables false
set_option maxRecDepth 100000 in
set_option maxHeartbeats 2000000 in
theorem Mo(x:En)(w:World):(binOp .neq 63 (.agg #[.bool true,.int .u8 x.ty,.string x.fx,.string x.ct,.int .u8 x.tn,.bool x.ov,Iv x.crs,Iv x.dst,Iv x.rad,Iv x.tht,Iv x.lo,Iv x.hi,Iv x.spd,Iv x.rnp,Iv x.ex,Iv x.ey,Iv x.mx,Iv x.my,.int .u8 x.sec,.string x.via]) (.agg #[.bool true,.int .u8 0,.string ⟨#[]⟩,.string ⟨#[]⟩,.int .u8 0,.bool false,Iv 0,Iv 0,Iv 0,Iv 0,Iv 0,Iv 0,Iv 0,Iv 0,Iv 0,Iv 0,Iv 0,Iv 0,.int .u8 0,.string ⟨#[]⟩])).run Tryz.prog w= .ok (.bool (!jB x)) w:=by
 have s0:∀s:ByteArray,s.toList=[]↔s=⟨#[]⟩:=fun s=>by rw[Lib.toList_data];exact⟨tU,fun e=>by rw[e]⟩
 go_simp;clear s0;by_cases hty:x.ty=0;rotate_left 1
 ·rw[if_neg hty,show jB x=false by simp[jB,hty]];rfl
 rw[if_pos hty];by_cases hfx:x.fx=⟨#[]⟩;rotate_left 1
 ·rw[if_neg hfx,show jB x=false by simp[jB,hfx]];rfl
 rw[if_pos hfx];by_cases hct:x.ct=⟨#[]⟩;rotate_left 1
 ·rw[if_neg hct,show jB x=false by simp[jB,hct]];rfl
 rw[if_pos hct];by_cases htn:x.tn=0;rotate_left 1
 ·rw[if_neg htn,show jB x=false by simp[jB,htn]];rfl
 rw[if_pos htn];by_cases hov:x.ov=true
 ·rw[if_pos hov,show jB x=false by simp[jB,hov]];rfl
 rw[if_neg hov];by_cases hcrs:x.crs=0;rotate_left 1
 ·rw[if_neg hcrs,show jB x=false by simp[jB,hcrs]];rfl
 rw[if_pos hcrs];by_cases hdst:x.dst=0;rotate_left 1
 ·rw[if_neg hdst,show jB x=false by simp[jB,hdst]];rfl
 rw[if_pos hdst];by_cases hrad:x.rad=0;rotate_left 1
 ·rw[if_neg hrad,show jB x=false by simp[jB,hrad]];rfl
 rw[if_pos hrad];by_cases htht:x.tht=0;rotate_left 1
 ·rw[if_neg htht,show jB x=false by simp[jB,htht]];rfl
 rw[if_pos htht];by_cases hlo:x.lo=0;rotate_left 1
 ·rw[if_neg hlo,show jB x=false by simp[jB,hlo]];rfl
 rw[if_pos hlo];by_cases hhi:x.hi=0;rotate_left 1
 ·rw[if_neg hhi,show jB x=false by simp[jB,hhi]];rfl
 rw[if_pos hhi];by_cases hspd:x.spd=0;rotate_left 1
 ·rw[if_neg hspd,show jB x=false by simp[jB,hspd]];rfl
 rw[if_pos hspd];by_cases hrnp:x.rnp=0;rotate_left 1
 ·rw[if_neg hrnp,show jB x=false by simp[jB,hrnp]];rfl
 rw[if_pos hrnp];by_cases hex:x.ex=0;rotate_left 1
 ·rw[if_neg hex,show jB x=false by simp[jB,hex]];rfl
 rw[if_pos hex];by_cases hey:x.ey=0;rotate_left 1
 ·rw[if_neg hey,show jB x=false by simp[jB,hey]];rfl
 rw[if_pos hey];by_cases hmx:x.mx=0;rotate_left 1
 ·rw[if_neg hmx,show jB x=false by simp[jB,hmx]];rfl
 rw[if_pos hmx];by_cases hmy:x.my=0;rotate_left 1
 ·rw[if_neg hmy,show jB x=false by simp[jB,hmy]];rfl
 rw[if_pos hmy];by_cases hsec:x.sec=0;rotate_left 1
 ·rw[if_neg hsec,show jB x=false by simp[jB,hsec]];rfl
 rw[if_pos hsec];by_cases hvia:x.via=⟨#[]⟩;rotate_left 1
 ·rw[if_neg hvia,show jB x=false by simp[jB,hvia]];rfl
 rw[if_pos hvia];have hp:jB x=true:=by simp[jB,hty,hfx,hct,htn,hov,hcrs,hdst,hrad,htht,hlo,hhi,hspd,hrnp,hex,hey,hmx,hmy,hsec,hvia]
 rw[hp];rfl
section
variable{ops:Array Oper}{Q:Exit→Act→World→Prop}{a:Act}{w:World}{rest:List Oper}{o:Oper}
theorem Ra{ty:TypeId}{P:Program}{d:Option Tmp}{x y:Operand}{rt:TypeId}{t:TypeId}{p:String}{l:Array Edge}{g:Option (Nat×Bool)}
 (h:wpList P ops Q ({dst:=d,op:= .binOp .neq ty x y rt,type:=t,pos:=p,after:=l,guard:=g}::rest) a w):wpList P ops Q ({dst:=d,op:= .binOp .neq ty x y rt,type:=t,pos:=p,after:=l,guard:=g}::rest) a w:=h
theorem rB(x:En){p q:Operand}{rt:TypeId}(ho:o.op= .binOp .neq 63 p q rt)(hgd:o.guard=none)(hp:a.eval p= .agg #[.bool true,.int .u8 x.ty,.string x.fx,.string x.ct,.int .u8 x.tn,.bool x.ov,Iv x.crs,Iv x.dst,Iv x.rad,Iv x.tht,Iv x.lo,Iv x.hi,Iv x.spd,Iv x.rnp,Iv x.ex,Iv x.ey,Iv x.mx,Iv x.my,.int .u8 x.sec,.string x.via])
 (hq:a.eval q= .agg #[.bool true,.int .u8 0,.string ⟨#[]⟩,.string ⟨#[]⟩,.int .u8 0,.bool false,Iv 0,Iv 0,Iv 0,Iv 0,Iv 0,Iv 0,Iv 0,Iv 0,Iv 0,Iv 0,Iv 0,Iv 0,.int .u8 0,.string ⟨#[]⟩])
 (h:wpList Tryz.prog ops Q rest (a.put o.dst (.bool (!jB x))) w):wpList Tryz.prog ops Q (o::rest) a w:=
 wpList_plain hgd fun _ hK=>by
  have hr:=Mo x w;unfold Oper.wp execOp;simp only[ho,hp,hq,Sem.run_bind,run_eqGuard_agg (P:=Tryz.prog) w .neq 63 p q _ _ qM,Result.andThen_ok,hr];exact hK _ _ h
end
set_option maxRecDepth 100000
set_option maxHeartbeats 16000000
set_option linter.unusedSimpArgs false
theorem dH{s t:ByteArray}:s.toList=t.toList↔s=t:=by
 rw[Lib.toList_data,Lib.toList_data];constructor
 ·intro h
  cases s with
  |mk a=>
   cases t with
   |mk b=>
    simp at h;rw[h]
 ·intro h;rw[h]
theorem GL(s:ByteArray)(b:UInt8)(m:Int)(hs:s.size≤maxLen)(w:World):
 Calls Tryz.prog 147 #[.string s,.string ⟨#[b]⟩,Iv m] w (BK (.bool (JH s.data.toList b m)) w):=by
 go_enter Tryz.func147,Tryz.ntmps147;go_wp2_with fail;refine(cz s b hs _).mono ?_;rintro e w1 ⟨x,y,f,rfl,hc,n,rfl⟩;have hsz:=TI hc;have NX:=fun W=>Yb x m qg W
 have NY:=fun W=>Yb y m qg W
 rcases f with _|_
 ·have HP:=hide (lT hc m);clear hc hsz;rcases h1:kh x.data.toList m with _|_
  all_goals
   rw[h1]at NX HP;clear h1;go_wp2_with(first|(go_at_call 178;with_reducible refine(NX _).mono ?_;rintro e w2 ⟨rfl,rfl⟩));go_ret;exact⟨vO HP.out.symm,n,rfl⟩
 ·have HP:=hide (lU hc m);clear hc hsz;rcases h1:kh x.data.toList m with _|_
  all_goals
   rw[h1]at NX HP;clear h1;rcases h2:kh y.data.toList m with _|_
   all_goals
    rw[h2]at NY HP;clear h2;go_wp2_with(first|(go_at_call 178;with_reducible refine(NX _).mono ?_;rintro e w2 ⟨rfl,rfl⟩)|(go_at_call 178;with_reducible refine(NY _).mono ?_;rintro e w2 ⟨rfl,rfl⟩));go_ret;exact⟨vO HP.out.symm,n,rfl⟩
theorem Ui(s:ByteArray)(hs:s.size≤maxLen)(w:World):
 Calls Tryz.prog 76 #[.string s] w (BK (.bool (Qd s)) w):=by
 by_cases h:s=⟨#[]⟩
 ·subst h;go_enter Tryz.func76,Tryz.ntmps76;go_wp2_with fail
  all_goals
   go_ret;exact⟨vO rfl,0,rfl⟩
 ·have HR:Hid (Qd s=JH s.data.toList 47 6):=hide (by unfold Qd;rw[decide_eq_false (fun e=>h (tU e))];rfl)
  have hl:s.toList=[]↔False:=by
   rw[Lib.toList_data];exact⟨fun e=>h (tU e),False.elim⟩
  have hl2:(s.toList==[])=false:=by
   rw[beq_eq_false_iff_ne];exact fun e=>hl.1 e
  have hl3:s.toList.isEmpty=false:=by
   cases hq:s.toList with
   |nil=>exact(hl.1 hq).elim
   |cons a b=>rfl
  clear h;have PA:=fun W=>GL s 47 6 hs W
  go_enter Tryz.func76,Tryz.ntmps76;go_wp2_with(first|(go_at_call 147;(with_reducible refine(PA _).mono ?_);rintro e w2 ⟨rfl,n,rfl⟩))
  all_goals first
   |(exfalso;simp_all;done)
   |(go_ret
     exact⟨vO HR.out.symm,_,rfl⟩)
theorem Mp(s:ByteArray)(hs:s.size≤maxLen)(w:World):
 Calls Tryz.prog 149 #[.string s] w (BK (.bool (lS s)) w):=by
 by_cases h:s=⟨#[]⟩
 ·subst h;go_enter Tryz.func149,Tryz.ntmps149;go_wp2_with fail
  all_goals
   go_ret;exact⟨vO rfl,0,rfl⟩
 ·have HR:Hid (lS s=JH s.data.toList 46 8):=hide (by unfold lS;rw[decide_eq_false (fun e=>h (tU e))];rfl)
  have hl:s.toList=[]↔False:=by
   rw[Lib.toList_data];exact⟨fun e=>h (tU e),False.elim⟩
  have hl2:(s.toList==[])=false:=by
   rw[beq_eq_false_iff_ne];exact fun e=>hl.1 e
  have hl3:s.toList.isEmpty=false:=by
   cases hq:s.toList with
   |nil=>exact(hl.1 hq).elim
   |cons a b=>rfl
  clear h;have PA:=fun W=>GL s 46 8 hs W
  go_enter Tryz.func149,Tryz.ntmps149;go_wp2_with(first|(go_at_call 147;(with_reducible refine(PA _).mono ?_);rintro e w2 ⟨rfl,n,rfl⟩))
  all_goals first
   |(exfalso;simp_all;done)
   |(go_ret
     exact⟨vO HR.out.symm,_,rfl⟩)
theorem Bo(t:Int)(w:World):Calls Tryz.prog 148 #[.int .u8 t] w fun e w'=>e= .returned (.bool (decide (1≤t∧t≤5)))∧w=w':=by
 obtain⟨V,hV⟩:∃V,decide (1≤t∧t≤5)=V:=⟨_,rfl⟩;rw[hV]
 have hcs:(decide (1≤t)=false∧V=false)∨(decide (1≤t)=true∧decide (t≤5)=V):=by
  by_cases h:1≤t
  ·exact .inr ⟨decide_eq_true h,by rw[←hV];exact decide_eq_decide.2 qg⟩
  ·exact .inl ⟨decide_eq_false h,by rw[←hV];exact decide_eq_false qg⟩
 clear hV;rcases hcs with⟨e1,rfl⟩|⟨e1,e2⟩
 ·go_enter Tryz.func148,Tryz.ntmps148;go_wp2_with fail
  all_goals
   go_ret;exact⟨rfl,rfl⟩
 ·go_enter Tryz.func148,Tryz.ntmps148;go_wp2_with fail
  all_goals
   go_ret
   first|exact⟨rfl,rfl⟩|exact⟨vO e2,rfl⟩
theorem pH(t:Int)(w:World):
 Calls Tryz.prog 78 #[.int .u8 t] w fun e w'=>e= .returned (.bool (Zo t))∧w=w':=by
 go_enter Tryz.func78,Tryz.ntmps78;go_wp2_with fail
 all_goals
  go_ret;exact⟨vO (by unfold Zo;(first|rfl|((try simp only[beq_iff_eq,beq_eq_false_iff_ne,bne_iff_ne,bne_eq_false_iff_eq,ne_eq,decide_eq_true_eq,decide_eq_false_iff_not,Bool.not_eq_true]at*);first|omega|(refine(decide_eq_true ?_).symm;omega)|(refine(decide_eq_false ?_).symm;omega)|(refine decide_eq_decide.2 ?_;omega)|(rw[Bool.eq_iff_iff];simp only[Bool.or_eq_true,Bool.and_eq_true,beq_iff_eq,bne_iff_ne,ne_eq,decide_eq_true_eq,Bool.not_eq_true',decide_eq_false_iff_not];omega)))),rfl⟩
theorem lM(t:Int)(w:World):
 Calls Tryz.prog 152 #[.int .u8 t] w fun e w'=>e= .returned (.bool (GQ t))∧w=w':=by
 go_enter Tryz.func152,Tryz.ntmps152;go_wp2_with fail
 all_goals
  go_ret;exact⟨vO (by unfold GQ;(first|rfl|((try simp only[beq_iff_eq,beq_eq_false_iff_ne,bne_iff_ne,bne_eq_false_iff_eq,ne_eq,decide_eq_true_eq,decide_eq_false_iff_not,Bool.not_eq_true]at*);first|omega|(refine(decide_eq_true ?_).symm;omega)|(refine(decide_eq_false ?_).symm;omega)|(refine decide_eq_decide.2 ?_;omega)|(rw[Bool.eq_iff_iff];simp only[Bool.or_eq_true,Bool.and_eq_true,beq_iff_eq,bne_iff_ne,ne_eq,decide_eq_true_eq,Bool.not_eq_true',decide_eq_false_iff_not];omega)))),rfl⟩
theorem lN(t:Int)(w:World):
 Calls Tryz.prog 151 #[.int .u8 t] w fun e w'=>e= .returned (.bool (GR t))∧w=w':=by
 go_enter Tryz.func151,Tryz.ntmps151;go_wp2_with fail
 all_goals
  go_ret;exact⟨vO (by unfold GR;(first|rfl|((try simp only[beq_iff_eq,beq_eq_false_iff_ne,bne_iff_ne,bne_eq_false_iff_eq,ne_eq,decide_eq_true_eq,decide_eq_false_iff_not,Bool.not_eq_true]at*);first|omega|(refine(decide_eq_true ?_).symm;omega)|(refine(decide_eq_false ?_).symm;omega)|(refine decide_eq_decide.2 ?_;omega)|(rw[Bool.eq_iff_iff];simp only[Bool.or_eq_true,Bool.and_eq_true,beq_iff_eq,bne_iff_ne,ne_eq,decide_eq_true_eq,Bool.not_eq_true',decide_eq_false_iff_not];omega)))),rfl⟩
theorem GM(a b:Int)(w:World):
 Calls Tryz.prog 150 #[.int .u8 a,.int .u8 b] w fun e w'=>e= .returned (.bool (tu a b))∧w=w':=by
 by_cases ha:a<1∨17<a
 ·have KA:=fun W=>VI a W ha
  have HR:Hid (tu a b=false):=hide (decide_eq_false qg);clear ha;go_enter Tryz.func150,Tryz.ntmps150;go_wp2_with refine qN (KA _) ?_
  all_goals
   go_ret;exact⟨vO HR.out.symm,rfl⟩
 have KA:=fun W=>yp a W qg qg
 by_cases hb:b<1∨17<b
 ·have KB:=fun W=>VI b W hb
  have HR:Hid (tu a b=false):=hide (decide_eq_false qg);clear ha hb;go_enter Tryz.func150,Tryz.ntmps150;go_wp2_with(first|refine qN (KA _) ?_|refine qN (KB _) ?_)
  all_goals
   go_ret;exact⟨vO HR.out.symm,rfl⟩
 have KB:=fun W=>yp b W qg qg
 have a1:1≤a:=qg;have a2:a≤17:=qg;have b1:1≤b:=qg;have b2:b≤17:=qg;clear ha hb;go_enter Tryz.func150,Tryz.ntmps150;go_wp2_with(first|refine qN (KA _) ?_|refine qN (KB _) ?_)
 all_goals
  go_ret;exact⟨vO (by unfold tu;(first|rfl|((try simp only[beq_iff_eq,beq_eq_false_iff_ne,bne_iff_ne,bne_eq_false_iff_eq,ne_eq,decide_eq_true_eq,decide_eq_false_iff_not,Bool.not_eq_true]at*);first|omega|(refine(decide_eq_true ?_).symm;omega)|(refine(decide_eq_false ?_).symm;omega)|(refine decide_eq_decide.2 ?_;omega)|(rw[Bool.eq_iff_iff];simp only[Bool.or_eq_true,Bool.and_eq_true,beq_iff_eq,bne_iff_ne,ne_eq,decide_eq_true_eq,Bool.not_eq_true',decide_eq_false_iff_not];omega)))),rfl⟩
theorem rC(y x:En)(w:World):
 Calls Tryz.prog 79 #[.agg y.leg.toArray,.agg x.leg.toArray] w fun e w'=>e= .returned (.bool (Ke y x))∧Below w.heap.size w w':=by
 have FO:=fun W=>GM y.ty x.ty W
 have FR:=fun W=>lN x.ty W
 have HR:=hide (show Ke y x=(tu y.ty x.ty&&(!GR x.ty||decide (y.fx=x.fx)))from rfl);rcases h1:tu y.ty x.ty with _|_<;>rcases h2:GR x.ty with _|_
 all_goals
  rw[h1]at FO HR;rw[h2]at FR HR;clear h1 h2;have hM:=qo w;go_enter Tryz.func79,Tryz.ntmps79;go_wp2_with(first|(go_at_call 150;(with_reducible refine(FO _).mono ?_);rintro e W1 ⟨rfl,rfl⟩)|(go_at_call 151;(with_reducible refine(FR _).mono ?_);rintro e W1 ⟨rfl,rfl⟩)|((with_reducible refine lX ?_);refine mL ?_)|((with_reducible refine sX ?_);refine mS ?_;clear hM;intro W hM)|((with_reducible refine bX ?_);refine mB ?_;clear hM;intro g W hM)|((with_reducible refine zX ?_);refine mB ?_;clear hM;intro g W hM))
  all_goals
   go_ret;exact⟨vO (by rw[HR.out];first|rfl|(simp;done)|(rw[Bool.eq_iff_iff];simp[dH])),hM.below⟩
theorem GN(y x:En)(w:World):
 Calls Tryz.prog 80 #[.agg y.leg.toArray,.agg x.leg.toArray] w fun e w'=>e= .returned (.bool (xC y x))∧Below w.heap.size w w':=by
 have EN:=fun W=>lM y.ty W
 have HR:=hide (show xC y x=(GQ y.ty&&decide (y.fx=x.fx))from rfl);rcases h1:GQ y.ty with _|_
 all_goals
  rw[h1]at EN HR;clear h1;have hM:=qo w;go_enter Tryz.func80,Tryz.ntmps80;go_wp2_with(first|(refine qe ?_;clear hM;intro g W hM)|refine qN (EN _) ?_)
  all_goals
   go_ret;exact⟨vO (by rw[HR.out];first|rfl|(simp;done)|(rw[Bool.eq_iff_iff];simp[dH])),hM.below⟩
theorem lO{s:ByteArray}(h:s≠⟨#[]⟩):(s.toList=[]↔False)∧(s.toList==[])=false∧s.toList.isEmpty=false:=by
 have hl:s.toList=[]↔False:=by
  rw[Lib.toList_data];exact⟨fun e=>h (tU e),False.elim⟩
 refine⟨hl,?_,?_⟩
 ·rw[beq_eq_false_iff_ne];exact fun e=>hl.1 e
 ·cases hq:s.toList with
  |nil=>exact(hl.1 hq).elim
  |cons a b=>rfl
theorem Ca(a b:Int):((a==0)=true∧(b==0)=true∧(a=0∧b=0))∨((a==0)=false∧¬(a=0∧b=0))∨((a==0)=true∧(b==0)=false∧¬(a=0∧b=0)):=by
 rcases h1:(a==0)with _|_
 ·exact .inr (.inl ⟨rfl,fun e=>by rw[e.1]at h1;cases h1⟩)
 ·rcases h2:(b==0)with _|_
  ·exact .inr (.inr ⟨rfl,rfl,fun e=>by rw[e.2]at h2;cases h2⟩)
  ·exact .inl ⟨rfl,rfl,by simpa using h1,by simpa using h2⟩
theorem GP(fx ct:ByteArray)(a b c d:Int):∃V:Bool,Hid (V=true↔((fx=⟨#[]⟩∧¬(a=0∧b=0))∨(ct=⟨#[]⟩∧¬(c=0∧d=0))))∧((fx≠⟨#[]⟩∧ct≠⟨#[]⟩∧V=false)∨(fx≠⟨#[]⟩∧ct=⟨#[]⟩∧(c==0)=true∧(d==0)=true∧V=false)∨(fx≠⟨#[]⟩∧ct=⟨#[]⟩∧(c==0)=false∧V=true)∨(fx≠⟨#[]⟩∧ct=⟨#[]⟩∧(c==0)=true∧(d==0)=false∧V=true)∨(fx=⟨#[]⟩∧(a==0)=false∧V=true)∨(fx=⟨#[]⟩∧(a==0)=true∧(b==0)=false∧V=true)∨(fx=⟨#[]⟩∧(a==0)=true∧(b==0)=true∧ct≠⟨#[]⟩∧V=false)∨(fx=⟨#[]⟩∧(a==0)=true∧(b==0)=true∧ct=⟨#[]⟩∧(c==0)=true∧(d==0)=true∧V=false)∨(fx=⟨#[]⟩∧(a==0)=true∧(b==0)=true∧ct=⟨#[]⟩∧(c==0)=false∧V=true)∨(fx=⟨#[]⟩∧(a==0)=true∧(b==0)=true∧ct=⟨#[]⟩∧(c==0)=true∧(d==0)=false∧V=true)):=by
 by_cases hf:fx=⟨#[]⟩<;>by_cases hc:ct=⟨#[]⟩<;>rcases Ca a b with⟨e1,e2,ez⟩|⟨e1,ez⟩|⟨e1,e2,ez⟩<;>rcases Ca c d with⟨m1,m2,mz⟩|⟨m1,mz⟩|⟨m1,m2,mz⟩
 all_goals first
  |exact⟨false,hide (by simp[hf,hc,ez,mz]),.inl ⟨hf,hc,rfl⟩⟩
  |exact⟨false,hide (by simp[hf,hc,ez,mz]),.inr (.inl ⟨hf,hc,m1,m2,rfl⟩)⟩
  |exact⟨true,hide (by simp[hf,hc,ez,mz]),.inr (.inr (.inl ⟨hf,hc,m1,rfl⟩))⟩
  |exact⟨true,hide (by simp[hf,hc,ez,mz]),.inr (.inr (.inr (.inl ⟨hf,hc,m1,m2,rfl⟩)))⟩
  |exact⟨true,hide (by simp[hf,hc,ez,mz]),.inr (.inr (.inr (.inr (.inl ⟨hf,e1,rfl⟩))))⟩
  |exact⟨true,hide (by simp[hf,hc,ez,mz]),.inr (.inr (.inr (.inr (.inr (.inl ⟨hf,e1,e2,rfl⟩)))))⟩
  |exact⟨false,hide (by simp[hf,hc,ez,mz]),.inr (.inr (.inr (.inr (.inr (.inr (.inl ⟨hf,e1,e2,hc,rfl⟩))))))⟩
  |exact⟨false,hide (by simp[hf,hc,ez,mz]),.inr (.inr (.inr (.inr (.inr (.inr (.inr (.inl ⟨hf,e1,e2,hc,m1,m2,rfl⟩)))))))⟩
  |exact⟨true,hide (by simp[hf,hc,ez,mz]),.inr (.inr (.inr (.inr (.inr (.inr (.inr (.inr (.inl ⟨hf,e1,e2,hc,m1,rfl⟩))))))))⟩
  |exact⟨true,hide (by simp[hf,hc,ez,mz]),.inr (.inr (.inr (.inr (.inr (.inr (.inr (.inr (.inr (⟨hf,e1,e2,hc,m1,m2,rfl⟩)))))))))⟩
set_option maxRecDepth 100000 in
set_option maxHeartbeats 8000000 in
theorem rF(x:En)(hx:Cd x)(w:World)(hu:Hid (yE w)):
 Calls Tryz.prog 77 #[.agg x.cells.toArray] w fun e w'=>e= .returned (Iv (kX x))∧Below w.heap.size w w':=by
 have LC:=fun W hW=>jf x hx.w.leg W hW
 have SE:=fun W=>Bo x.sec W
 have WA:=fun W=>Mp x.via hx.via W
 have P1:=fun W=>qE x.ex x.ey W
 have P2:=fun W=>qE x.mx x.my W
 obtain⟨E0,hE⟩:∃E0,jW x=E0:=⟨_,rfl⟩;obtain⟨R,hR⟩:∃R,kX x=R:=⟨_,rfl⟩;have HT:=hide hR;unfold kX at hR;rw[hE]at LC hR;clear hE;by_cases hL:E0=0;rotate_left 1
 ·rw[if_pos hL]at hR;subst hR;have hne:(E0 !=0)=true:=by simpa using hL
  clear hL;have hM:=qo w;go_enter Tryz.func77,Tryz.ntmps77;go_wp2_with(first|(go_at_call 81;(refine(LC _ (hide (qP hM hu.out))).mono ?_);rintro e W1 ⟨rfl,hb⟩;replace hM:=qD hM hb;clear hb)|(go_at_call 148;(with_reducible refine(SE _).mono ?_);rintro e W1 ⟨rfl,rfl⟩)|(go_at_call 149;(with_reducible refine(WA _).mono ?_);rintro e W1 ⟨rfl,hq⟩;replace hM:=yd hM hq;clear hq)|(go_at_call 31;(with_reducible refine cb hM (P1 _) ?_);clear hM;intro W1 hM)|(go_at_call 31;(with_reducible refine cb hM (P2 _) ?_);clear hM;intro W1 hM)|((with_reducible refine lX ?_);refine mL ?_)|((with_reducible refine sX ?_);refine mS ?_;clear hM;intro W hM)|((with_reducible refine bX ?_);refine mB ?_;clear hM;intro g W hM)|((with_reducible refine zX ?_);refine mB ?_;clear hM;intro g W hM))
  all_goals first
   |(go_ret;exact⟨qQ HT.out.symm,hM.below⟩;done)
   |(exfalso;simp_all;done)
 subst hL;rw[if_neg jL]at hR;by_cases hs:x.sec<1∨x.sec>5
 ·rw[if_pos hs]at hR;subst hR;rw[decide_eq_false qg]at SE;clear hs;have hM:=qo w;go_enter Tryz.func77,Tryz.ntmps77;go_wp2_with(first|(go_at_call 81;(refine(LC _ (hide (qP hM hu.out))).mono ?_);rintro e W1 ⟨rfl,hb⟩;replace hM:=qD hM hb;clear hb)|(go_at_call 148;(with_reducible refine(SE _).mono ?_);rintro e W1 ⟨rfl,rfl⟩)|(go_at_call 149;(with_reducible refine(WA _).mono ?_);rintro e W1 ⟨rfl,hq⟩;replace hM:=yd hM hq;clear hq)|(go_at_call 31;(with_reducible refine cb hM (P1 _) ?_);clear hM;intro W1 hM)|(go_at_call 31;(with_reducible refine cb hM (P2 _) ?_);clear hM;intro W1 hM)|((with_reducible refine lX ?_);refine mL ?_)|((with_reducible refine sX ?_);refine mS ?_;clear hM;intro W hM)|((with_reducible refine bX ?_);refine mB ?_;clear hM;intro g W hM)|((with_reducible refine zX ?_);refine mB ?_;clear hM;intro g W hM))
  all_goals first
   |(go_ret;exact⟨qQ HT.out.symm,hM.below⟩;done)
   |(exfalso;simp_all;done)
 rw[if_neg hs]at hR;rw[decide_eq_true qg]at SE;clear hs;rcases hw:lS x.via with _|_
 ·rw[hw,if_pos rfl]at hR;rw[hw]at WA;subst hR;clear hw;have hM:=qo w;go_enter Tryz.func77,Tryz.ntmps77;go_wp2_with(first|(go_at_call 81;(refine(LC _ (hide (qP hM hu.out))).mono ?_);rintro e W1 ⟨rfl,hb⟩;replace hM:=qD hM hb;clear hb)|(go_at_call 148;(with_reducible refine(SE _).mono ?_);rintro e W1 ⟨rfl,rfl⟩)|(go_at_call 149;(with_reducible refine(WA _).mono ?_);rintro e W1 ⟨rfl,hq⟩;replace hM:=yd hM hq;clear hq)|(go_at_call 31;(with_reducible refine cb hM (P1 _) ?_);clear hM;intro W1 hM)|(go_at_call 31;(with_reducible refine cb hM (P2 _) ?_);clear hM;intro W1 hM)|((with_reducible refine lX ?_);refine mL ?_)|((with_reducible refine sX ?_);refine mS ?_;clear hM;intro W hM)|((with_reducible refine bX ?_);refine mB ?_;clear hM;intro g W hM)|((with_reducible refine zX ?_);refine mB ?_;clear hM;intro g W hM))
  all_goals first
   |(go_ret;exact⟨qQ HT.out.symm,hM.below⟩;done)
   |(exfalso;simp_all;done)
 rw[hw,if_neg jL]at hR;rw[hw]at WA;clear hw;rcases v1:qw x.ex x.ey with _|_
 ·rw[v1,if_pos jL]at hR;rw[v1]at P1;subst hR;clear v1;have hM:=qo w;go_enter Tryz.func77,Tryz.ntmps77;go_wp2_with(first|(go_at_call 81;(refine(LC _ (hide (qP hM hu.out))).mono ?_);rintro e W1 ⟨rfl,hb⟩;replace hM:=qD hM hb;clear hb)|(go_at_call 148;(with_reducible refine(SE _).mono ?_);rintro e W1 ⟨rfl,rfl⟩)|(go_at_call 149;(with_reducible refine(WA _).mono ?_);rintro e W1 ⟨rfl,hq⟩;replace hM:=yd hM hq;clear hq)|(go_at_call 31;(with_reducible refine cb hM (P1 _) ?_);clear hM;intro W1 hM)|(go_at_call 31;(with_reducible refine cb hM (P2 _) ?_);clear hM;intro W1 hM)|((with_reducible refine lX ?_);refine mL ?_)|((with_reducible refine sX ?_);refine mS ?_;clear hM;intro W hM)|((with_reducible refine bX ?_);refine mB ?_;clear hM;intro g W hM)|((with_reducible refine zX ?_);refine mB ?_;clear hM;intro g W hM))
  all_goals first
   |(go_ret;exact⟨qQ HT.out.symm,hM.below⟩;done)
   |(exfalso;simp_all;done)
 rcases v2:qw x.mx x.my with _|_
 ·rw[v1,v2,if_pos jL]at hR;rw[v1]at P1;rw[v2]at P2;subst hR;clear v1 v2;have hM:=qo w;go_enter Tryz.func77,Tryz.ntmps77;go_wp2_with(first|(go_at_call 81;(refine(LC _ (hide (qP hM hu.out))).mono ?_);rintro e W1 ⟨rfl,hb⟩;replace hM:=qD hM hb;clear hb)|(go_at_call 148;(with_reducible refine(SE _).mono ?_);rintro e W1 ⟨rfl,rfl⟩)|(go_at_call 149;(with_reducible refine(WA _).mono ?_);rintro e W1 ⟨rfl,hq⟩;replace hM:=yd hM hq;clear hq)|(go_at_call 31;(with_reducible refine cb hM (P1 _) ?_);clear hM;intro W1 hM)|(go_at_call 31;(with_reducible refine cb hM (P2 _) ?_);clear hM;intro W1 hM)|((with_reducible refine lX ?_);refine mL ?_)|((with_reducible refine sX ?_);refine mS ?_;clear hM;intro W hM)|((with_reducible refine bX ?_);refine mB ?_;clear hM;intro g W hM)|((with_reducible refine zX ?_);refine mB ?_;clear hM;intro g W hM))
  all_goals first
   |(go_ret;exact⟨qQ HT.out.symm,hM.below⟩;done)
   |(exfalso;simp_all;done)
 rw[v1,v2,if_neg jL]at hR;rw[v1]at P1;rw[v2]at P2;clear v1 v2;obtain⟨V,HV,hcs⟩:=GP x.fx x.ct x.ex x.ey x.mx x.my;have hM:=qo w;go_enter Tryz.func77,Tryz.ntmps77;go_upto_region 10 with(first|(go_at_call 81;(refine(LC _ (hide (qP hM hu.out))).mono ?_);rintro e W1 ⟨rfl,hb⟩;replace hM:=qD hM hb;clear hb)|(go_at_call 148;(with_reducible refine(SE _).mono ?_);rintro e W1 ⟨rfl,rfl⟩)|(go_at_call 149;(with_reducible refine(WA _).mono ?_);rintro e W1 ⟨rfl,hq⟩;replace hM:=yd hM hq;clear hq)|(go_at_call 31;(with_reducible refine cb hM (P1 _) ?_);clear hM;intro W1 hM)|(go_at_call 31;(with_reducible refine cb hM (P2 _) ?_);clear hM;intro W1 hM)|((with_reducible refine lX ?_);refine mL ?_)|((with_reducible refine sX ?_);refine mS ?_;clear hM;intro W hM)|((with_reducible refine bX ?_);refine mB ?_;clear hM;intro g W hM)|((with_reducible refine zX ?_);refine mB ?_;clear hM;intro g W hM));obtain⟨gx,rfl⟩:=uC hM;go_cut [31] (fun s wx=>s= .bool V∧qF w wx [(gx,x.cells,63)])
 case first=>
  rcases hcs with⟨hf,hc,rfl⟩|⟨hf,hc,m1,m2,rfl⟩|⟨hf,hc,m1,rfl⟩|⟨hf,hc,m1,m2,rfl⟩|⟨hf,e1,rfl⟩|⟨hf,e1,e2,rfl⟩|⟨hf,e1,e2,hc,rfl⟩|⟨hf,e1,e2,hc,m1,m2,rfl⟩|⟨hf,e1,e2,hc,m1,rfl⟩|⟨hf,e1,e2,hc,m1,m2,rfl⟩
  all_goals(
   try(have hf2:=lO hf;obtain⟨f1,f2,f3⟩:=hf2;clear hf)
   try(have hc2:=lO hc;obtain⟨c1,c2,c3⟩:=hc2;clear hc)
   go_wp2_with(first|((with_reducible refine lX ?_);refine mL ?_))
   all_goals first
    |(go_meet;exact⟨rfl,hM⟩;done)
    |(exfalso;simp_all;done))
 case rest=>
 clear hM;obtain⟨rfl,hM⟩:=hcut;rcases V with _|_
 ·rw[if_neg (fun h=>by have:=HV.out.2 h;cases this)]at hR;subst hR;go_wp2_with fail;go_ret;exact⟨qQ HT.out.symm,hM.below⟩
 ·rw[if_pos (HV.out.1 rfl)]at hR;subst hR;go_wp2_with fail;go_ret;exact⟨qQ HT.out.symm,hM.below⟩
end Go.Proofs.YtiegohjobhehcaaGreatDoor
