/-
  Bytes of a string, one after the other; names, references as the code asks for them. No program.
-/
import Derived.Test.YtiegohjobhehcaaGreatDoorMSeries
import Derived.Test.YtiegohjobhehcaaGreatDoorMShelf
import Derived.Lib.Bytealg
namespace Go.Proofs.YtiegohjobhehcaaGreatDoor
set_option linter.unusedVariables false
theorem sY(s:ByteArray)(k:Nat)(h:k<s.size):s.data.toList.take (k+1)=s.data.toList.take k++[s[k]]:=by
 rw[List.take_succ_eq_append_getElem (by simpa using h)];rfl
theorem TF(s:ByteArray)(f:UInt8→Bool)(k:Nat)(h:k<s.size):(s.data.toList.take (k+1)).all f=((s.data.toList.take k).all f&&f s[k]):=by
 rw[sY s k h];simp
theorem cg(s:ByteArray)(f:UInt8→Bool)(k:Nat)(h:k<s.size)(hf:f s[k]=false):s.data.toList.all f=false:=by
 rw[List.all_eq_false];exact⟨s[k],by simp only[Array.mem_toList_iff];exact Array.getElem_mem _,by rw[hf];simp⟩
theorem cq(s:ByteArray)(f:UInt8→Bool)(k:Nat)(h:s.size≤k)(ha:(s.data.toList.take k).all f=true):s.data.toList.all f=true:=by
 rwa[List.take_of_length_le (by simpa using h)]at ha
theorem Qm(s:ByteArray):s.data.toList.length=s.size:=jL
theorem Dm(s:ByteArray)(h:0<s.size):∃r,s.data.toList=s[0]::r:=by
 have h1:0<s.data.toList.length:=by simpa using h
 cases hl:s.data.toList with
 |nil=>rw[hl]at h1;cases h1
 |cons c r=>
  refine⟨r,?_⟩;congr 1;have:s.data.toList[0]=s[0]:=rfl;rw[←this];simp[hl]
theorem WV{s:ByteArray}(h:s.size=0)(m:Int):kh s.data.toList m=false:=by
 have:s.data.toList=[]:=List.length_eq_zero_iff.1 (by rw[Qm,h]);rw[this];rfl
theorem Dn(s:ByteArray)(h:0<s.size)(m:Int):kh s.data.toList m=(decide ((s.size:Int)≤m)&&(decide ((65:Int)≤(s[0].toNat:Int))&&decide ((s[0].toNat:Int)≤(90:Int)))&&s.data.toList.all ui):=by
 obtain⟨r,hr⟩:=Dm s h;have hl:=Qm s;rw[hr]at hl⊢
 show(decide (((s[0]::r).length:Int)≤m)&&_&&_)=_
 rw[hl]
theorem TH{c:UInt8}(h:ui c=false):¬(65≤(c.toNat:Int)∧(c.toNat:Int)≤90)∧¬(48≤(c.toNat:Int)∧(c.toNat:Int)≤57):=by
 unfold ui at h;simpa using h
theorem Uw{c:UInt8}(h:ui c=true):(65≤(c.toNat:Int)∧(c.toNat:Int)≤90)∨(48≤(c.toNat:Int)∧(c.toNat:Int)≤57):=by
 unfold ui at h;simpa using h
theorem WW{b:UInt8}{l:List UInt8}(h:b∉l):Kt b l=none:=by
 induction l with
 |nil=>rfl
 |cons c l ih=>
  unfold Kt;rw[if_neg (fun e=>h (by rw[←e];exact .head _)),ih (fun hm=>h (.tail _ hm))];rfl
theorem WX{b:UInt8}(x:List UInt8)(y:List UInt8)(h:b∉x):Kt b (x++b::y)=some (x,y):=by
 induction x with
 |nil=>simp[Kt]
 |cons c x ih=>
  rw[List.cons_append];unfold Kt;rw[if_neg (fun e=>h (by rw[←e];exact .head _)),ih (fun hm=>h (.tail _ hm))];rfl
theorem RF(s:ByteArray)(b:UInt8)(k:Nat)(h:k<s.size)(hk:s[k]=b)(hn:b∉s.data.toList.take k):Kt b s.data.toList=some (s.data.toList.take k,s.data.toList.drop (k+1)):=by
 have e:s.data.toList=s.data.toList.take k++b::s.data.toList.drop (k+1):=by
  have h1:s.data.toList.drop k=s[k]::s.data.toList.drop (k+1):=List.drop_eq_getElem_cons (by simpa using h);rw[←hk,←h1,List.take_append_drop]
 have h2:=WX (s.data.toList.take k) (s.data.toList.drop (k+1)) hn;rw[←e]at h2;exact h2
theorem ma(l:List UInt8)(c:UInt8):(Lib.indexByte l c= -1∧c∉l)∨∃(k:Nat) (h:k<l.length),Lib.indexByte l c=k∧l[k]=c∧c∉l.take k:=by
 induction l with
 |nil=>exact .inl ⟨rfl,jL⟩
 |cons b l ih=>
  unfold Lib.indexByte;by_cases hb:b=c
  ·refine .inr ⟨0,by simp,?_,by simpa using hb,jL⟩;simp[hb]
  ·have hb':(b==c)=false:=by simpa using hb
   rw[hb'];rcases ih with⟨h1,h2⟩|⟨k,h,h1,h2,h3⟩
   ·refine .inl ⟨by rw[h1];rfl,?_⟩;intro hm;rcases List.mem_cons.1 hm with e|hm
    ·exact hb e.symm
    ·exact h2 hm
   ·refine .inr ⟨k+1,by simp;exact h,?_,by simpa using h2,?_⟩
    ·rw[h1];have:((k:Int)== -1)=false:=by rw[beq_eq_false_iff_ne];omega
     rw[this];simp
    ·rw[List.take_succ_cons];intro hm;rcases List.mem_cons.1 hm with e|hm
     ·exact hb e.symm
     ·exact h3 hm
def ZL(s:ByteArray)(b:UInt8)(x y:ByteArray)(f:Bool):Prop:=
 (f=true∧Kt b s.data.toList=some (x.data.toList,y.data.toList)∧x.size≤s.size∧y.size≤s.size)∨(f=false∧Kt b s.data.toList=none∧x=s∧y=⟨#[]⟩)
theorem WZ(s:ByteArray)(b:UInt8):(Lib.indexByte s.data.toList b= -1∧ZL s b s ⟨#[]⟩ false)∨
 ∃k:Nat,k<s.size∧Lib.indexByte s.data.toList b=k∧ZL s b (s.extract 0 k) (s.extract (k+1) s.size) true:=by
 rcases ma s.data.toList b with⟨h1,h2⟩|⟨k,h,h1,h2,h3⟩
 ·exact .inl ⟨h1,.inr ⟨rfl,WW h2,rfl,rfl⟩⟩
 ·have hk:k<s.size:=by simpa using h
  refine .inr ⟨k,hk,h1,.inl ⟨rfl,?_,?_,?_⟩⟩
  ·rw[RF s b k hk h2 h3];congr 2
   ·simp[ByteArray.data_extract]
   ·simp only[ByteArray.data_extract,Array.toList_extract,List.extract];rw[List.take_of_length_le jL]
  ·simp[ByteArray.size_extract];omega
  ·simp[ByteArray.size_extract]
theorem Pb{s x y:ByteArray}(h:ZL s 47 x y true):BH s.data.toList=(kh x.data.toList 6&&(kh y.data.toList 6||tW y.data.toList)):=by
 rcases h with⟨_,h,_⟩|⟨h,_⟩
 ·unfold BH;rw[h]
 ·cases h
theorem Dp{s x y:ByteArray}(h:ZL s 47 x y false):BH s.data.toList=false:=by
 rcases h with⟨h,_⟩|⟨_,h,_⟩
 ·cases h
 ·unfold BH;rw[h]
theorem TI{s x y:ByteArray}{b:UInt8}{f:Bool}(h:ZL s b x y f):x.size≤s.size∧y.size≤s.size:=by
 rcases h with⟨_,_,h1,h2⟩|⟨_,_,h1,h2⟩
 ·exact⟨h1,h2⟩
 ·rw[h1,h2];exact⟨Nat.le_refl _,Nat.zero_le _⟩
set_option maxRecDepth 100000
set_option maxHeartbeats 16000000
open Go.RowKit
set_option linter.unusedSimpArgs false
theorem sZ(s:ByteArray)(b:UInt8)(w:World):
 Calls Tryz.prog 235 #[.string s,.int .u8 b.toNat] w fun e w'=>e= .returned (Iv (Lib.indexByte s.data.toList b))∧w=w':=by
 have hb:Hid (((b.toNat:Int)).toNat.toUInt8=b):=hide jL;go_enter Tryz.func235,Tryz.ntmps235;go_wp2_with fail;rw[run_callFunc_extern Tryz.func246 qM qM qM (e:=Extern.BytealgIndexByte.indexByte) qM,Lib.run_indexByteString,hb.out];simp only[Result.andThen];rw[Oper.upon_value];go_wp2_with fail
 all_goals
  go_ret;exact⟨rfl,rfl⟩
theorem RG{s:ByteArray}{b:UInt8}(h:([b]==s.toList)=true):Lib.indexByte s.data.toList b=0:=by
 have e:[b]=s.toList:=by simpa using h
 rw[Lib.toList_data]at e;rw[←e];simp[Lib.indexByte]
theorem TJ(s:ByteArray)(b:UInt8)(hs:s.size≤maxLen)(w:World):
 Calls Tryz.prog 230 #[.string s,.string ⟨#[b]⟩] w fun e w'=>e= .returned (Iv (Lib.indexByte s.data.toList b))∧w=w':=by
 unfold maxLen at hs;have hsz:(⟨#[b]⟩:ByteArray).size=1:=rfl;have hget:(⟨#[b]⟩:ByteArray)[0]=b:=rfl;rcases hq:([b]==s.toList)with _|_
 ·go_enter Tryz.func230,Tryz.ntmps230;go_wp2_with fail;refine(sZ s b _).mono ?_;rintro e w1 ⟨rfl,rfl⟩;go_wp2_with fail
  all_goals
   go_ret;exact⟨rfl,rfl⟩
 ·have HR:=hide (RG hq);go_enter Tryz.func230,Tryz.ntmps230;go_wp2_with fail
  all_goals
   go_ret;exact⟨qQ HR.out.symm,rfl⟩
def Ex(s:ByteArray)(b:UInt8)(w:World)(e:Ending)(w':World):Prop:=∃(x y:ByteArray) (f:Bool),e= .returned (.tuple #[.string x,.string y,.bool f])∧ZL s b x y f∧∃n,w'=w.drewN n
theorem Pc(s:ByteArray)(b:UInt8)(hs:s.size≤maxLen)(w:World):
 Calls Tryz.prog 220 #[.string s,.string ⟨#[b]⟩] w (Ex s b w):=by
 have hsz:(⟨#[b]⟩:ByteArray).size=1:=rfl;rcases WZ s b with⟨h1,h2⟩|⟨k,hk,h1,h2⟩
 ·have H1:=hide h1;have H2:=hide h2;clear h1 h2;have ID:=fun W=>TJ s b hs W
  rw[H1.out]at ID;unfold maxLen at hs;go_enter Tryz.func220,Tryz.ntmps220;go_wp2_with fail;refine(ID _).mono ?_;rintro e w1 ⟨rfl,rfl⟩;go_wp2_with fail;go_ret3;exact⟨_,_,_,rfl,H2.out,0,rfl⟩
 ·have H1:=hide h1;have H2:=hide h2;clear h1 h2;have ID:=fun W=>TJ s b hs W
  rw[H1.out]at ID;unfold maxLen at hs;have a1:(0:Int)≤(k:Int):=qg;have a2:(k:Int)≤(s.size:Int):=qg;have a3:(0:Int)≤(k:Int)+1:=qg;have a4:(k:Int)+1≤(s.size:Int):=qg;have iw:IntKind.i64.wrap ((k:Int)+1)=(k:Int)+1:=IntWalk.i64_in _ qg;have tn:((k:Int)+1).toNat=k+1:=qg;go_enter Tryz.func220,Tryz.ntmps220;go_wp2_with fail;refine(ID _).mono ?_;rintro e w1 ⟨rfl,rfl⟩;go_wp2_with fail;go_quiet (fail);go_wp2_with fail;go_ret3;exact⟨_,_,_,rfl,H2.out,_,rfl⟩
theorem cz(s:ByteArray)(b:UInt8)(hs:s.size≤maxLen)(w:World):
 Calls Tryz.prog 200 #[.string s,.string ⟨#[b]⟩] w (Ex s b w):=by
 go_enter Tryz.func200,Tryz.ntmps200;go_wp2_with fail;refine(Pc s b hs _).mono ?_;rintro e w1 ⟨x,y,f,rfl,hc,n,rfl⟩;go_wp2_with fail;go_ret3;exact⟨x,y,f,rfl,hc,n,rfl⟩
theorem vO{a b:Bool}(h:a=b):Ending.returned (.bool a)= .returned (.bool b):=by rw[h]
theorem Yb(s:ByteArray)(m:Int)(hs:s.size≤maxLen)(w:World):
 Calls Tryz.prog 178 #[.string s,Iv m] w fun e w'=>e= .returned (.bool (kh s.data.toList m))∧w=w':=by
 unfold maxLen at hs;by_cases h0:s.size=0
 ·have HR:=hide (WV h0 m);go_enter Tryz.func178,Tryz.ntmps178;go_wp2_with fail
  all_goals
   go_ret;exact⟨vO HR.out.symm,rfl⟩
 have hp:0<s.size:=qg;have MT:(1:Int)≤(s.size:Int):=qg;have hne:((s.size:Int)==0)=false:=by rw[beq_eq_false_iff_ne];omega
 have HE:=hide (Dn s hp m);clear h0;by_cases h1:m<(s.size:Int)
 ·have HR:Hid (kh s.data.toList m=false):=hide (by rw[HE.out];simp;omega);go_enter Tryz.func178,Tryz.ntmps178;go_wp2_with fail
  all_goals
   go_ret;exact⟨vO HR.out.symm,rfl⟩
 by_cases h2:(s[0].toNat:Int)<65∨90<(s[0].toNat:Int)
 ·have HR:Hid (kh s.data.toList m=false):=hide (by rw[HE.out];simp;omega);rcases h2 with h2|h2
  all_goals
   go_enter Tryz.func178,Tryz.ntmps178;go_wp2_with fail
   all_goals first
    |(exfalso;omega)
    |(go_ret
      exact⟨vO HR.out.symm,rfl⟩)
 have h3:65≤(s[0].toNat:Int):=qg;have h4:(s[0].toNat:Int)≤90:=qg;have HR:Hid (kh s.data.toList m=s.data.toList.all ui):=hide (by rw[HE.out];simp;omega);clear h2;go_enter Tryz.func178,Tryz.ntmps178;go_wp2_with fail;go_loop [27] (fun i=>∃k:Nat,k≤s.size∧i=Iv k∧Hid ((s.data.toList.take k).all ui=true)) (fun i=>s.size-(intOf i).toNat)
 case atStart=>exact⟨0,by omega,rfl,hide rfl⟩
 case round=>
  obtain⟨k,hk,rfl,hA⟩:=hrel;by_cases hlt:k<s.size
  ·rcases hc:ui s[k]with _|_
   ·have hno:=TH hc;have hbad:=hide (cg s ui k hlt hc);clear hc;obtain⟨hn1,hn2⟩:=hno;go_wp2_with fail
    all_goals first
     |(exfalso;omega)
     |(go_ret
       exact⟨vO (by rw[HR.out,hbad.out]),rfl⟩)
   ·have hst:=hide (TF s ui k hlt);have hy:Hid (ui s[k]=true):=hide hc;have hyes:=Uw hc;clear hc;rcases hyes with⟨hy1,hy2⟩|⟨hy1,hy2⟩
    all_goals
     go_wp2_with fail
     all_goals first
      |(exfalso;omega)
      |(go_round
        case rel=>exact⟨k+1,by omega,by go_num,hide (by rw[hst.out,hA.out,hy.out];rfl)⟩
        case measure=>simp[intOf];omega)
  ·have hend:=hide (cq s ui k qg hA.out);go_wp2_with fail;go_ret;exact⟨vO (by rw[HR.out,hend.out]),rfl⟩
theorem Dq(s:ByteArray)(hs:s.size≤maxLen)(w:World):
 Calls Tryz.prog 221 #[.string s] w fun e w'=>e= .returned (.bool (tW s.data.toList))∧w=w':=by
 unfold maxLen at hs;by_cases h2:s.size=2
 ·have HR:Hid (tW s.data.toList=s.data.toList.all ui):=hide (by unfold tW;rw[Qm,h2];simp);go_enter Tryz.func221,Tryz.ntmps221;go_wp2_with fail;go_loop [9] (fun i=>∃k:Nat,k≤s.size∧i=Iv k∧Hid ((s.data.toList.take k).all ui=true)) (fun i=>s.size-(intOf i).toNat)
  case atStart=>exact⟨0,by omega,rfl,hide rfl⟩
  case round=>
   obtain⟨k,hk,rfl,hA⟩:=hrel;by_cases hlt:k<s.size
   ·rcases hc:ui s[k]with _|_
    ·have hno:=TH hc;have hbad:=hide (cg s ui k hlt hc);clear hc;obtain⟨hn1,hn2⟩:=hno;go_wp2_with fail
     all_goals first
      |(exfalso;omega)
      |(go_ret
        exact⟨vO (by rw[HR.out,hbad.out]),rfl⟩)
    ·have hst:=hide (TF s ui k hlt);have hy:Hid (ui s[k]=true):=hide hc;have hyes:=Uw hc;clear hc;rcases hyes with⟨hy1,hy2⟩|⟨hy1,hy2⟩
     all_goals
      go_wp2_with fail
      all_goals first
       |(exfalso;omega)
       |(go_round
         case rel=>exact⟨k+1,by omega,by go_num,hide (by rw[hst.out,hA.out,hy.out];rfl)⟩
         case measure=>simp[intOf];omega)
   ·have hend:=hide (cq s ui k qg hA.out);go_wp2_with fail;go_ret;exact⟨vO (by rw[HR.out,hend.out]),rfl⟩
 ·have HR:Hid (tW s.data.toList=false):=hide (by unfold tW;rw[Qm];simp;omega);have hne:((s.size:Int) !=2)=true:=by simp;omega
  go_enter Tryz.func221,Tryz.ntmps221;go_wp2_with fail
  all_goals
   go_ret;exact⟨vO HR.out.symm,rfl⟩
def RH(s:ByteArray)(w:World)(e:Ending)(w':World):Prop:=∃(x y:ByteArray) (c:Int),e= .returned (.tuple #[.string x,.string y,Iv c])∧(c=0↔BH s.data.toList=true)∧∃n,w'=w.drewN n
theorem TK{s x y:ByteArray}(h:ZL s 47 x y true)(h1:kh x.data.toList 6=true)(h2:(kh y.data.toList 6||tW y.data.toList)=true):BH s.data.toList=true:=by rw[Pb h,h1,h2];rfl
theorem Ux{s x y:ByteArray}(h:ZL s 47 x y true)(h1:kh x.data.toList 6=false∨(kh y.data.toList 6||tW y.data.toList)=false):BH s.data.toList=false:=by
 rw[Pb h];rcases h1 with h1|h1<;>rw[h1]<;>simp
theorem cC{c:Int}{b:Bool}(hc:c=0)(hb:b=true):c=0↔b=true:=by simp[hc,hb]
theorem mg{c:Int}{b:Bool}(hc:c≠0)(hb:b=false):c=0↔b=true:=by simp[hc,hb]
set_option maxRecDepth 100000 in
set_option maxHeartbeats 8000000 in
theorem Uy(s:ByteArray)(hs:s.size≤maxLen)(w:World):
 Calls Tryz.prog 201 #[.string s] w (RH s w):=by
 go_enter Tryz.func201,Tryz.ntmps201;go_wp2_with fail;refine(cz s 47 hs _).mono ?_;rintro e w1 ⟨x,y,f,rfl,hc,n,rfl⟩;have hsz:=TI hc;rcases f with _|_
 ·have HC:=hide hc;clear hc hsz;go_wp2_with fail;go_ret3;exact⟨_,_,_,rfl,mg qG (Dp HC.out),n,rfl⟩
 ·have NX:=fun W=>Yb x 6 qg W
  have NY:=fun W=>Yb y 6 qg W
  have SY:=fun W=>Dq y qg W
  have HC:=hide hc;clear hc hsz;rcases h1:kh x.data.toList 6 with _|_
  ·have H1:=hide h1;rw[h1]at NX;clear h1;go_wp2_with(first|(go_at_call 178;with_reducible refine(NX _).mono ?_;rintro e w2 ⟨rfl,rfl⟩));go_ret3;exact⟨_,_,_,rfl,mg qG (Ux HC.out (.inl H1.out)),n,rfl⟩
  ·have H1:=hide h1;rw[h1]at NX;clear h1;rcases h2:kh y.data.toList 6 with _|_
   ·have H2:=hide h2;rw[h2]at NY;clear h2;rcases h3:tW y.data.toList with _|_
    all_goals
     have H3:=hide h3;rw[h3]at SY;clear h3;go_wp2_with(first|(go_at_call 178;with_reducible refine(NX _).mono ?_;rintro e w2 ⟨rfl,rfl⟩)|(go_at_call 178;with_reducible refine(NY _).mono ?_;rintro e w2 ⟨rfl,rfl⟩)|(go_at_call 221;with_reducible refine(SY _).mono ?_;rintro e w2 ⟨rfl,rfl⟩));go_ret3
     first
      |exact⟨_,_,_,rfl,mg qG (Ux HC.out (.inr (by rw[H2.out,H3.out];rfl))),n,rfl⟩
      |exact⟨_,_,_,rfl,cC rfl (TK HC.out H1.out (by rw[H2.out,H3.out];rfl)),n,rfl⟩
   ·have H2:=hide h2;rw[h2]at NY;clear h2;go_wp2_with(first|(go_at_call 178;with_reducible refine(NX _).mono ?_;rintro e w2 ⟨rfl,rfl⟩)|(go_at_call 178;with_reducible refine(NY _).mono ?_;rintro e w2 ⟨rfl,rfl⟩));go_ret3;exact⟨_,_,_,rfl,cC rfl (TK HC.out H1.out (by rw[H2.out];rfl)),n,rfl⟩
def BK(v:Value)(w:World)(e:Ending)(w':World):Prop:=e= .returned v∧∃n,w'=w.drewN n
theorem tU{s:ByteArray}(h:s.data.toList=[]):s=⟨#[]⟩:=by
 cases s with
 |mk d=>simp at h;rw[h]
theorem TM{s:ByteArray}(h:s≠⟨#[]⟩):kp s false=1:=by
 unfold kp;rw[if_neg jL,if_neg (fun e=>h (tU e))]
theorem TP(s:ByteArray)(u:Bool)(hs:s.size≤maxLen)(w:World):
 Calls Tryz.prog 154 #[.string s,.bool u] w (BK (Iv (kp s u)) w):=by
 rcases u with _|_
 ·by_cases h:s=⟨#[]⟩
  ·subst h;have HR:Hid (kp ⟨#[]⟩ false=0):=hide rfl;go_enter Tryz.func154,Tryz.ntmps154;go_wp2_with fail
   all_goals
    go_ret;exact⟨qQ HR.out.symm,0,rfl⟩
  ·have HR:=hide (TM h)
   have hl:s.toList=[]↔False:=by
    rw[Lib.toList_data];exact⟨fun e=>h (tU e),False.elim⟩
   have hl2:(s.toList==[])=false:=by
    rw[beq_eq_false_iff_ne];exact fun e=>hl.1 e
   have hl3:s.toList.isEmpty=false:=by
    cases hq:s.toList with
    |nil=>exact(hl.1 hq).elim
    |cons a b=>rfl
   clear h;go_enter Tryz.func154,Tryz.ntmps154;go_wp2_with fail
   all_goals first
    |(exfalso;simp_all;done)
    |(go_ret
      exact⟨qQ HR.out.symm,0,rfl⟩)
 ·rcases hr:BH s.data.toList with _|_
  ·have HR:Hid (kp s true=5):=hide (by unfold kp;rw[hr];rfl);have H0:=hide hr;clear hr;go_enter Tryz.func154,Tryz.ntmps154;go_wp2_with fail;refine(Uy s hs _).mono ?_;rintro e w1 ⟨x,y,c,rfl,hc,n,rfl⟩
   have hc0:(c !=0)=true:=by
    rw[bne_iff_ne];intro e;have:=hc.1 e;rw[H0.out]at this;cases this
   clear hc;go_wp2_with fail
   all_goals
    go_ret;exact⟨qQ HR.out.symm,n,rfl⟩
  ·have HR:Hid (kp s true=0):=hide (by unfold kp;rw[hr];rfl);have H0:=hide hr;clear hr;go_enter Tryz.func154,Tryz.ntmps154;go_wp2_with fail;refine(Uy s hs _).mono ?_;rintro e w1 ⟨x,y,c,rfl,hc,n,rfl⟩;obtain rfl:c=0:=hc.2 H0.out;clear hc;go_wp2_with fail
   all_goals
    go_ret;exact⟨qQ HR.out.symm,n,rfl⟩
theorem Yc(n:Int)(u:Bool)(lo hi:Int)(w:World):
 Calls Tryz.prog 155 #[Iv n,.bool u,Iv lo,Iv hi] w fun e w'=>e= .returned (Iv (yT n u lo hi))∧w=w':=by
 rcases u with _|_
 ·by_cases h0:n=0
  ·subst h0;have HR:Hid (yT 0 false lo hi=0):=hide rfl;go_enter Tryz.func155,Tryz.ntmps155;go_wp2_with fail
   all_goals
    go_ret;exact⟨qQ HR.out.symm,rfl⟩
  ·have HR:Hid (yT n false lo hi=1):=hide (by unfold yT;rw[if_neg jL,if_neg h0]);have hne:(n !=0)=true:=by simpa using h0
   have hne2:(n==0)=false:=by simpa using h0
   clear h0;go_enter Tryz.func155,Tryz.ntmps155;go_wp2_with fail
   all_goals
    go_ret;exact⟨qQ HR.out.symm,rfl⟩
 ·have HR:Hid (yT n true lo hi=if n<lo∨n>hi then 2 else 0):=hide rfl;go_enter Tryz.func155,Tryz.ntmps155;go_wp2_with fail
  all_goals
   go_ret;exact⟨qQ (by rw[HR.out];first|rw[if_pos qg]|rw[if_neg qg]),rfl⟩
end Go.Proofs.YtiegohjobhehcaaGreatDoor
