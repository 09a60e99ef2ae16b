/-
  Bytes of a string, one after the other; names, references as the code asks for them. No program.
-/
import Derived.Test.YtcgpbnlhnafhjaaGreatDoorMSeries
import Derived.Test.YtcgpbnlhnafhjaaGreatDoorMShelf
import Derived.Lib.Bytealg
namespace Go.Proofs.YtcgpbnlhnafhjaaGreatDoor
set_option linter.unusedVariables false
theorem Ya(s:ByteArray)(k:Nat)(h:k<s.size):s.data.toList.take (k+1)=s.data.toList.take k++[s[k]]:=by
 rw[List.take_succ_eq_append_getElem (by simpa using h)];rfl
theorem Qq(s:ByteArray)(f:UInt8→Bool)(k:Nat)(h:k<s.size):(s.data.toList.take (k+1)).all f=((s.data.toList.take k).all f&&f s[k]):=by
 rw[Ya s k h];simp
theorem Jh(s:ByteArray)(f:UInt8→Bool)(k:Nat)(h:k<s.size)(hf:f s[k]=false):s.data.toList.all f=false:=by
 rw[List.all_eq_false];exact⟨s[k],by simp only[Array.mem_toList_iff];exact Array.getElem_mem _,by rw[hf];simp⟩
theorem Ji(s:ByteArray)(f:UInt8→Bool)(k:Nat)(h:s.size≤k)(ha:(s.data.toList.take k).all f=true):s.data.toList.all f=true:=by
 rwa[List.take_of_length_le (by simpa using h)]at ha
theorem uW(s:ByteArray):s.data.toList.length=s.size:=DS
theorem WH(s:ByteArray)(h:0<s.size):∃r,s.data.toList=s[0]::r:=by
 have h1:0<s.data.toList.length:=by simpa using h
 cases hl:s.data.toList with
 |nil=>rw[hl]at h1;cases h1
 |cons c r=>
  refine⟨r,?_⟩;congr 1;have:s.data.toList[0]=s[0]:=rfl;rw[←this];simp[hl]
theorem TP{s:ByteArray}(h:s.size=0)(m:Int):yA s.data.toList m=false:=by
 have:s.data.toList=[]:=List.length_eq_zero_iff.1 (by rw[uW,h]);rw[this];rfl
theorem da(s:ByteArray)(h:0<s.size)(m:Int):yA s.data.toList m=(decide ((s.size:Int)≤m)&&(decide ((65:Int)≤(s[0].toNat:Int))&&decide ((s[0].toNat:Int)≤(90:Int)))&&s.data.toList.all yx):=by
 obtain⟨r,hr⟩:=WH s h;have hl:=uW s;rw[hr]at hl⊢
 show(decide (((s[0]::r).length:Int)≤m)&&_&&_)=_
 rw[hl]
theorem Jj{c:UInt8}(h:yx c=false):¬(65≤(c.toNat:Int)∧(c.toNat:Int)≤90)∧¬(48≤(c.toNat:Int)∧(c.toNat:Int)≤57):=by
 unfold yx at h;simpa using h
theorem QP{c:UInt8}(h:yx c=true):(65≤(c.toNat:Int)∧(c.toNat:Int)≤90)∨(48≤(c.toNat:Int)∧(c.toNat:Int)≤57):=by
 unfold yx at h;simpa using h
theorem VY{b:UInt8}{l:List UInt8}(h:b∉l):VR b l=none:=by
 induction l with
 |nil=>rfl
 |cons c l ih=>
  unfold VR;rw[if_neg (fun e=>h (by rw[←e];exact .head _)),ih (fun hm=>h (.tail _ hm))];rfl
theorem ic{b:UInt8}(x:List UInt8)(y:List UInt8)(h:b∉x):VR b (x++b::y)=some (x,y):=by
 induction x with
 |nil=>simp[VR]
 |cons c x ih=>
  rw[List.cons_append];unfold VR;rw[if_neg (fun e=>h (by rw[←e];exact .head _)),ih (fun hm=>h (.tail _ hm))];rfl
theorem ng(s:ByteArray)(b:UInt8)(k:Nat)(h:k<s.size)(hk:s[k]=b)(hn:b∉s.data.toList.take k):VR b s.data.toList=some (s.data.toList.take k,s.data.toList.drop (k+1)):=by
 have e:s.data.toList=s.data.toList.take k++b::s.data.toList.drop (k+1):=by
  have h1:s.data.toList.drop k=s[k]::s.data.toList.drop (k+1):=List.drop_eq_getElem_cons (by simpa using h);rw[←hk,←h1,List.take_append_drop]
 have h2:=ic (s.data.toList.take k) (s.data.toList.drop (k+1)) hn;rw[←e]at h2;exact h2
theorem ni(l:List UInt8)(c:UInt8):(Lib.indexByte l c= -1∧c∉l)∨∃(k:Nat) (h:k<l.length),Lib.indexByte l c=k∧l[k]=c∧c∉l.take k:=by
 induction l with
 |nil=>exact .inl ⟨rfl,DS⟩
 |cons b l ih=>
  unfold Lib.indexByte;by_cases hb:b=c
  ·refine .inr ⟨0,by simp,?_,by simpa using hb,DS⟩;simp[hb]
  ·have hb':(b==c)=false:=by simpa using hb
   rw[hb'];rcases ih with⟨h1,h2⟩|⟨k,h,h1,h2,h3⟩
   ·refine .inl ⟨by rw[h1];rfl,?_⟩;intro hm;rcases List.mem_cons.1 hm with e|hm
    ·exact hb e.symm
    ·exact h2 hm
   ·refine .inr ⟨k+1,by simp;exact h,?_,by simpa using h2,?_⟩
    ·rw[h1];have:((k:Int)== -1)=false:=by rw[beq_eq_false_iff_ne];omega
     rw[this];simp
    ·rw[List.take_succ_cons];intro hm;rcases List.mem_cons.1 hm with e|hm
     ·exact hb e.symm
     ·exact h3 hm
def xN(s:ByteArray)(b:UInt8)(x y:ByteArray)(f:Bool):Prop:=
 (f=true∧VR b s.data.toList=some (x.data.toList,y.data.toList)∧x.size≤s.size∧y.size≤s.size)∨(f=false∧VR b s.data.toList=none∧x=s∧y=⟨#[]⟩)
theorem ig(s:ByteArray)(b:UInt8):(Lib.indexByte s.data.toList b= -1∧xN s b s ⟨#[]⟩ false)∨
 ∃k:Nat,k<s.size∧Lib.indexByte s.data.toList b=k∧xN s b (s.extract 0 k) (s.extract (k+1) s.size) true:=by
 rcases ni s.data.toList b with⟨h1,h2⟩|⟨k,h,h1,h2,h3⟩
 ·exact .inl ⟨h1,.inr ⟨rfl,VY h2,rfl,rfl⟩⟩
 ·have hk:k<s.size:=by simpa using h
  refine .inr ⟨k,hk,h1,.inl ⟨rfl,?_,?_,?_⟩⟩
  ·rw[ng s b k hk h2 h3];congr 2
   ·simp[ByteArray.data_extract]
   ·simp only[ByteArray.data_extract,Array.toList_extract,List.extract];rw[List.take_of_length_le DS]
  ·simp[ByteArray.size_extract];omega
  ·simp[ByteArray.size_extract]
theorem ij{s x y:ByteArray}(h:xN s 47 x y true):YA s.data.toList=(yA x.data.toList 6&&(yA y.data.toList 6||kQ y.data.toList)):=by
 rcases h with⟨_,h,_⟩|⟨h,_⟩
 ·unfold YA;rw[h]
 ·cases h
theorem WI{s x y:ByteArray}(h:xN s 47 x y false):YA s.data.toList=false:=by
 rcases h with⟨h,_⟩|⟨_,h,_⟩
 ·cases h
 ·unfold YA;rw[h]
theorem Jk{s x y:ByteArray}{b:UInt8}{f:Bool}(h:xN s b x y f):x.size≤s.size∧y.size≤s.size:=by
 rcases h with⟨_,_,h1,h2⟩|⟨_,_,h1,h2⟩
 ·exact⟨h1,h2⟩
 ·rw[h1,h2];exact⟨Nat.le_refl _,Nat.zero_le _⟩
set_option maxRecDepth 100000
set_option maxHeartbeats 16000000
open Go.RowKit
set_option linter.unusedSimpArgs false
theorem fB(s:ByteArray)(b:UInt8)(w:World):
 Calls Tryz.prog 231 #[.string s,.int .u8 b.toNat] w fun e w'=>e= .returned (Iv (Lib.indexByte s.data.toList b))∧w=w':=by
 have hb:Hid (((b.toNat:Int)).toNat.toUInt8=b):=hide DS;go_enter Tryz.func231,Tryz.ntmps231;go_wp2_with fail;rw[run_callFunc_extern Tryz.func242 DN DN DN (e:=Extern.BytealgIndexByte.indexByte) DN,Lib.run_indexByteString,hb.out];simp only[Result.andThen];rw[Oper.upon_value];go_wp2_with fail
 all_goals
  go_ret;exact⟨rfl,rfl⟩
theorem Nn{s:ByteArray}{b:UInt8}(h:([b]==s.toList)=true):Lib.indexByte s.data.toList b=0:=by
 have e:[b]=s.toList:=by simpa using h
 rw[Lib.toList_data]at e;rw[←e];simp[Lib.indexByte]
theorem TS(s:ByteArray)(b:UInt8)(hs:s.size≤maxLen)(w:World):
 Calls Tryz.prog 225 #[.string s,.string ⟨#[b]⟩] w fun e w'=>e= .returned (Iv (Lib.indexByte s.data.toList b))∧w=w':=by
 unfold maxLen at hs;have hsz:(⟨#[b]⟩:ByteArray).size=1:=rfl;have hget:(⟨#[b]⟩:ByteArray)[0]=b:=rfl;rcases hq:([b]==s.toList)with _|_
 ·go_enter Tryz.func225,Tryz.ntmps225;go_wp2_with fail;refine(fB s b _).mono ?_;rintro e w1 ⟨rfl,rfl⟩;go_wp2_with fail
  all_goals
   go_ret;exact⟨rfl,rfl⟩
 ·have HR:=hide (Nn hq);go_enter Tryz.func225,Tryz.ntmps225;go_wp2_with fail
  all_goals
   go_ret;exact⟨qI HR.out.symm,rfl⟩
def Mu(s:ByteArray)(b:UInt8)(w:World)(e:Ending)(w':World):Prop:=∃(x y:ByteArray) (f:Bool),e= .returned (.tuple #[.string x,.string y,.bool f])∧xN s b x y f∧∃n,w'=w.drewN n
theorem ik(s:ByteArray)(b:UInt8)(hs:s.size≤maxLen)(w:World):
 Calls Tryz.prog 215 #[.string s,.string ⟨#[b]⟩] w (Mu s b w):=by
 have hsz:(⟨#[b]⟩:ByteArray).size=1:=rfl;rcases ig s b with⟨h1,h2⟩|⟨k,hk,h1,h2⟩
 ·have H1:=hide h1;have H2:=hide h2;clear h1 h2;have ID:=fun W=>TS s b hs W
  rw[H1.out]at ID;unfold maxLen at hs;go_enter Tryz.func215,Tryz.ntmps215;go_wp2_with fail;refine(ID _).mono ?_;rintro e w1 ⟨rfl,rfl⟩;go_wp2_with fail;go_ret3;exact⟨_,_,_,rfl,H2.out,0,rfl⟩
 ·have H1:=hide h1;have H2:=hide h2;clear h1 h2;have ID:=fun W=>TS s b hs W
  rw[H1.out]at ID;unfold maxLen at hs;have a1:(0:Int)≤(k:Int):=DL;have a2:(k:Int)≤(s.size:Int):=DL;have a3:(0:Int)≤(k:Int)+1:=DL;have a4:(k:Int)+1≤(s.size:Int):=DL;have iw:IntKind.i64.wrap ((k:Int)+1)=(k:Int)+1:=IntWalk.i64_in _ DL;have tn:((k:Int)+1).toNat=k+1:=DL;go_enter Tryz.func215,Tryz.ntmps215;go_wp2_with fail;refine(ID _).mono ?_;rintro e w1 ⟨rfl,rfl⟩;go_wp2_with fail;go_quiet (fail);go_wp2_with fail;go_ret3;exact⟨_,_,_,rfl,H2.out,_,rfl⟩
theorem dc(s:ByteArray)(b:UInt8)(hs:s.size≤maxLen)(w:World):
 Calls Tryz.prog 196 #[.string s,.string ⟨#[b]⟩] w (Mu s b w):=by
 go_enter Tryz.func196,Tryz.ntmps196;go_wp2_with fail;refine(ik s b hs _).mono ?_;rintro e w1 ⟨x,y,f,rfl,hc,n,rfl⟩;go_wp2_with fail;go_ret3;exact⟨x,y,f,rfl,hc,n,rfl⟩
theorem jh{a b:Bool}(h:a=b):Ending.returned (.bool a)= .returned (.bool b):=by rw[h]
theorem YN(s:ByteArray)(m:Int)(hs:s.size≤maxLen)(w:World):
 Calls Tryz.prog 197 #[.string s,Iv m] w fun e w'=>e= .returned (.bool (yA s.data.toList m))∧w=w':=by
 unfold maxLen at hs;by_cases h0:s.size=0
 ·have HR:=hide (TP h0 m);go_enter Tryz.func197,Tryz.ntmps197;go_wp2_with fail
  all_goals
   go_ret;exact⟨jh HR.out.symm,rfl⟩
 have hp:0<s.size:=DL;have BU:(1:Int)≤(s.size:Int):=DL;have hne:((s.size:Int)==0)=false:=by rw[beq_eq_false_iff_ne];omega
 have HE:=hide (da s hp m);clear h0;by_cases h1:m<(s.size:Int)
 ·have HR:Hid (yA s.data.toList m=false):=hide (by rw[HE.out];simp;omega);go_enter Tryz.func197,Tryz.ntmps197;go_wp2_with fail
  all_goals
   go_ret;exact⟨jh HR.out.symm,rfl⟩
 by_cases h2:(s[0].toNat:Int)<65∨90<(s[0].toNat:Int)
 ·have HR:Hid (yA s.data.toList m=false):=hide (by rw[HE.out];simp;omega);rcases h2 with h2|h2
  all_goals
   go_enter Tryz.func197,Tryz.ntmps197;go_wp2_with fail
   all_goals first
    |(exfalso;omega)
    |(go_ret
      exact⟨jh HR.out.symm,rfl⟩)
 have h3:65≤(s[0].toNat:Int):=DL;have h4:(s[0].toNat:Int)≤90:=DL;have HR:Hid (yA s.data.toList m=s.data.toList.all yx):=hide (by rw[HE.out];simp;omega);clear h2;go_enter Tryz.func197,Tryz.ntmps197;go_wp2_with fail;go_loop [27] (fun i=>∃k:Nat,k≤s.size∧i=Iv k∧Hid ((s.data.toList.take k).all yx=true)) (fun i=>s.size-(intOf i).toNat)
 case atStart=>exact⟨0,by omega,rfl,hide rfl⟩
 case round=>
  obtain⟨k,hk,rfl,hA⟩:=hrel;by_cases hlt:k<s.size
  ·rcases hc:yx s[k]with _|_
   ·have hno:=Jj hc;have hbad:=hide (Jh s yx k hlt hc);clear hc;obtain⟨hn1,hn2⟩:=hno;go_wp2_with fail
    all_goals first
     |(exfalso;omega)
     |(go_ret
       exact⟨jh (by rw[HR.out,hbad.out]),rfl⟩)
   ·have hst:=hide (Qq s yx k hlt);have hy:Hid (yx s[k]=true):=hide hc;have hyes:=QP hc;clear hc;rcases hyes with⟨hy1,hy2⟩|⟨hy1,hy2⟩
    all_goals
     go_wp2_with fail
     all_goals first
      |(exfalso;omega)
      |(go_round
        case rel=>exact⟨k+1,by omega,by go_num,hide (by rw[hst.out,hA.out,hy.out];rfl)⟩
        case measure=>simp[intOf];omega)
  ·have hend:=hide (Ji s yx k DL hA.out);go_wp2_with fail;go_ret;exact⟨jh (by rw[HR.out,hend.out]),rfl⟩
theorem Qr(s:ByteArray)(m:Int)(hs:s.size≤maxLen)(w:World):
 Calls Tryz.prog 205 #[.string s,Iv m] w fun e w'=>e= .returned (.bool (yA s.data.toList m))∧w=w':=by
 unfold maxLen at hs;by_cases h0:s.size=0
 ·have HR:=hide (TP h0 m);go_enter Tryz.func205,Tryz.ntmps205;go_wp2_with fail
  all_goals
   go_ret;exact⟨jh HR.out.symm,rfl⟩
 have hp:0<s.size:=DL;have BU:(1:Int)≤(s.size:Int):=DL;have hne:((s.size:Int)==0)=false:=by rw[beq_eq_false_iff_ne];omega
 have HE:=hide (da s hp m);clear h0;by_cases h1:m<(s.size:Int)
 ·have HR:Hid (yA s.data.toList m=false):=hide (by rw[HE.out];simp;omega);go_enter Tryz.func205,Tryz.ntmps205;go_wp2_with fail
  all_goals
   go_ret;exact⟨jh HR.out.symm,rfl⟩
 by_cases h2:(s[0].toNat:Int)<65∨90<(s[0].toNat:Int)
 ·have HR:Hid (yA s.data.toList m=false):=hide (by rw[HE.out];simp;omega);rcases h2 with h2|h2
  all_goals
   go_enter Tryz.func205,Tryz.ntmps205;go_wp2_with fail
   all_goals first
    |(exfalso;omega)
    |(go_ret
      exact⟨jh HR.out.symm,rfl⟩)
 have h3:65≤(s[0].toNat:Int):=DL;have h4:(s[0].toNat:Int)≤90:=DL;have HR:Hid (yA s.data.toList m=s.data.toList.all yx):=hide (by rw[HE.out];simp;omega);clear h2;go_enter Tryz.func205,Tryz.ntmps205;go_wp2_with fail;go_loop [5] (fun i=>∃k:Nat,k≤s.size∧i=Iv k∧Hid ((s.data.toList.take k).all yx=true)) (fun i=>s.size-(intOf i).toNat)
 case atStart=>exact⟨0,by omega,rfl,hide rfl⟩
 case round=>
  obtain⟨k,hk,rfl,hA⟩:=hrel;by_cases hlt:k<s.size
  ·rcases hc:yx s[k]with _|_
   ·have hno:=Jj hc;have hbad:=hide (Jh s yx k hlt hc);clear hc;obtain⟨hn1,hn2⟩:=hno;go_wp2_with fail
    all_goals first
     |(exfalso;omega)
     |(go_ret
       exact⟨jh (by rw[HR.out,hbad.out]),rfl⟩)
   ·have hst:=hide (Qq s yx k hlt);have hy:Hid (yx s[k]=true):=hide hc;have hyes:=QP hc;clear hc;rcases hyes with⟨hy1,hy2⟩|⟨hy1,hy2⟩
    all_goals
     go_wp2_with fail
     all_goals first
      |(exfalso;omega)
      |(go_round
        case rel=>exact⟨k+1,by omega,by go_num,hide (by rw[hst.out,hA.out,hy.out];rfl)⟩
        case measure=>simp[intOf];omega)
  ·have hend:=hide (Ji s yx k DL hA.out);go_wp2_with fail;go_ret;exact⟨jh (by rw[HR.out,hend.out]),rfl⟩
theorem WJ(s:ByteArray)(hs:s.size≤maxLen)(w:World):
 Calls Tryz.prog 216 #[.string s] w fun e w'=>e= .returned (.bool (kQ s.data.toList))∧w=w':=by
 unfold maxLen at hs;by_cases h2:s.size=2
 ·have HR:Hid (kQ s.data.toList=s.data.toList.all yx):=hide (by unfold kQ;rw[uW,h2];simp);go_enter Tryz.func216,Tryz.ntmps216;go_wp2_with fail;go_loop [9] (fun i=>∃k:Nat,k≤s.size∧i=Iv k∧Hid ((s.data.toList.take k).all yx=true)) (fun i=>s.size-(intOf i).toNat)
  case atStart=>exact⟨0,by omega,rfl,hide rfl⟩
  case round=>
   obtain⟨k,hk,rfl,hA⟩:=hrel;by_cases hlt:k<s.size
   ·rcases hc:yx s[k]with _|_
    ·have hno:=Jj hc;have hbad:=hide (Jh s yx k hlt hc);clear hc;obtain⟨hn1,hn2⟩:=hno;go_wp2_with fail
     all_goals first
      |(exfalso;omega)
      |(go_ret
        exact⟨jh (by rw[HR.out,hbad.out]),rfl⟩)
    ·have hst:=hide (Qq s yx k hlt);have hy:Hid (yx s[k]=true):=hide hc;have hyes:=QP hc;clear hc;rcases hyes with⟨hy1,hy2⟩|⟨hy1,hy2⟩
     all_goals
      go_wp2_with fail
      all_goals first
       |(exfalso;omega)
       |(go_round
         case rel=>exact⟨k+1,by omega,by go_num,hide (by rw[hst.out,hA.out,hy.out];rfl)⟩
         case measure=>simp[intOf];omega)
   ·have hend:=hide (Ji s yx k DL hA.out);go_wp2_with fail;go_ret;exact⟨jh (by rw[HR.out,hend.out]),rfl⟩
 ·have HR:Hid (kQ s.data.toList=false):=hide (by unfold kQ;rw[uW];simp;omega);have hne:((s.size:Int) !=2)=true:=by simp;omega
  go_enter Tryz.func216,Tryz.ntmps216;go_wp2_with fail
  all_goals
   go_ret;exact⟨jh HR.out.symm,rfl⟩
theorem il(s:ByteArray)(hs:s.size≤maxLen)(w:World):
 Calls Tryz.prog 223 #[.string s] w fun e w'=>e= .returned (.bool (kQ s.data.toList))∧w=w':=by
 unfold maxLen at hs;by_cases h2:s.size=2
 ·have HR:Hid (kQ s.data.toList=s.data.toList.all yx):=hide (by unfold kQ;rw[uW,h2];simp);go_enter Tryz.func223,Tryz.ntmps223;go_wp2_with fail;go_loop [3] (fun i=>∃k:Nat,k≤s.size∧i=Iv k∧Hid ((s.data.toList.take k).all yx=true)) (fun i=>s.size-(intOf i).toNat)
  case atStart=>exact⟨0,by omega,rfl,hide rfl⟩
  case round=>
   obtain⟨k,hk,rfl,hA⟩:=hrel;by_cases hlt:k<s.size
   ·rcases hc:yx s[k]with _|_
    ·have hno:=Jj hc;have hbad:=hide (Jh s yx k hlt hc);clear hc;obtain⟨hn1,hn2⟩:=hno;go_wp2_with fail
     all_goals first
      |(exfalso;omega)
      |(go_ret
        exact⟨jh (by rw[HR.out,hbad.out]),rfl⟩)
    ·have hst:=hide (Qq s yx k hlt);have hy:Hid (yx s[k]=true):=hide hc;have hyes:=QP hc;clear hc;rcases hyes with⟨hy1,hy2⟩|⟨hy1,hy2⟩
     all_goals
      go_wp2_with fail
      all_goals first
       |(exfalso;omega)
       |(go_round
         case rel=>exact⟨k+1,by omega,by go_num,hide (by rw[hst.out,hA.out,hy.out];rfl)⟩
         case measure=>simp[intOf];omega)
   ·have hend:=hide (Ji s yx k DL hA.out);go_wp2_with fail;go_ret;exact⟨jh (by rw[HR.out,hend.out]),rfl⟩
 ·have HR:Hid (kQ s.data.toList=false):=hide (by unfold kQ;rw[uW];simp;omega);have hne:((s.size:Int) !=2)=true:=by simp;omega
  go_enter Tryz.func223,Tryz.ntmps223;go_wp2_with fail
  all_goals
   go_ret;exact⟨jh HR.out.symm,rfl⟩
def iq(s:ByteArray)(w:World)(e:Ending)(w':World):Prop:=∃(x y:ByteArray) (c:Int),e= .returned (.tuple #[.string x,.string y,Iv c])∧(c=0↔YA s.data.toList=true)∧∃n,w'=w.drewN n
theorem Jl{s x y:ByteArray}(h:xN s 47 x y true)(h1:yA x.data.toList 6=true)(h2:(yA y.data.toList 6||kQ y.data.toList)=true):YA s.data.toList=true:=by rw[ij h,h1,h2];rfl
theorem QQ{s x y:ByteArray}(h:xN s 47 x y true)(h1:yA x.data.toList 6=false∨(yA y.data.toList 6||kQ y.data.toList)=false):YA s.data.toList=false:=by
 rw[ij h];rcases h1 with h1|h1<;>rw[h1]<;>simp
theorem YO{c:Int}{b:Bool}(hc:c=0)(hb:b=true):c=0↔b=true:=by simp[hc,hb]
theorem Yb{c:Int}{b:Bool}(hc:c≠0)(hb:b=false):c=0↔b=true:=by simp[hc,hb]
theorem UE(s:ByteArray)(hs:s.size≤maxLen)(w:World):
 Calls Tryz.prog 198 #[.string s] w (iq s w):=by
 go_enter Tryz.func198,Tryz.ntmps198;go_wp2_with fail;refine(dc s 47 hs _).mono ?_;rintro e w1 ⟨x,y,f,rfl,hc,n,rfl⟩;have hsz:=Jk hc;rcases f with _|_
 ·have HC:=hide hc;clear hc hsz;go_wp2_with fail;go_ret3;exact⟨_,_,_,rfl,Yb DQ (WI HC.out),n,rfl⟩
 ·have NX:=fun W=>YN x 6 DL W
  have NY:=fun W=>YN y 6 DL W
  have SY:=fun W=>WJ y DL W
  have HC:=hide hc;clear hc hsz;rcases h1:yA x.data.toList 6 with _|_
  ·have H1:=hide h1;rw[h1]at NX;clear h1;go_wp2_with(first|(go_at_call 197;with_reducible refine(NX _).mono ?_;rintro e w2 ⟨rfl,rfl⟩));go_ret3;exact⟨_,_,_,rfl,Yb DQ (QQ HC.out (.inl H1.out)),n,rfl⟩
  ·have H1:=hide h1;rw[h1]at NX;clear h1;rcases h2:yA y.data.toList 6 with _|_
   ·have H2:=hide h2;rw[h2]at NY;clear h2;rcases h3:kQ y.data.toList with _|_
    all_goals
     have H3:=hide h3;rw[h3]at SY;clear h3;go_wp2_with(first|(go_at_call 197;with_reducible refine(NX _).mono ?_;rintro e w2 ⟨rfl,rfl⟩)|(go_at_call 197;with_reducible refine(NY _).mono ?_;rintro e w2 ⟨rfl,rfl⟩)|(go_at_call 216;with_reducible refine(SY _).mono ?_;rintro e w2 ⟨rfl,rfl⟩));go_ret3
     first
      |exact⟨_,_,_,rfl,Yb DQ (QQ HC.out (.inr (by rw[H2.out,H3.out];rfl))),n,rfl⟩
      |exact⟨_,_,_,rfl,YO rfl (Jl HC.out H1.out (by rw[H2.out,H3.out];rfl)),n,rfl⟩
   ·have H2:=hide h2;rw[h2]at NY;clear h2;go_wp2_with(first|(go_at_call 197;with_reducible refine(NX _).mono ?_;rintro e w2 ⟨rfl,rfl⟩)|(go_at_call 197;with_reducible refine(NY _).mono ?_;rintro e w2 ⟨rfl,rfl⟩));go_ret3;exact⟨_,_,_,rfl,YO rfl (Jl HC.out H1.out (by rw[H2.out];rfl)),n,rfl⟩
theorem VZ(s:ByteArray)(hs:s.size≤maxLen)(w:World):
 Calls Tryz.prog 207 #[.string s] w (iq s w):=by
 have hm:=hs;unfold maxLen at hs;go_enter Tryz.func207,Tryz.ntmps207;go_wp2_with fail;go_loop [5] (fun i=>∃k:Nat,k≤s.size∧i=Iv k∧Hid (47∉s.data.toList.take k)) (fun i=>s.size-(intOf i).toNat)
 case atStart=>exact⟨0,by omega,rfl,hide DS⟩
 case round=>
  obtain⟨k,hk,rfl,hA⟩:=hrel;by_cases hlt:k<s.size
  ·by_cases hc:s[k]=47
   ·have hcut:xN s 47 (s.extract 0 k) (s.extract (k+1) s.size) true:=by
     refine .inl ⟨rfl,?_,?_,?_⟩
     ·rw[ng s 47 k hlt hc hA.out];congr 2
      ·simp[ByteArray.data_extract]
      ·simp only[ByteArray.data_extract,Array.toList_extract,List.extract];rw[List.take_of_length_le DS]
     ·simp[ByteArray.size_extract];omega
     ·simp[ByteArray.size_extract]
    have hsz:=Jk hcut;have hc1:((s[k].toNat:Int)==47)=true:=by rw[hc];rfl
    have HC:=hide hcut;clear hcut hc;have NX:=fun W=>Qr (s.extract 0 k) 6 (by unfold maxLen;omega) W
    have NY:=fun W=>Qr (s.extract (k+1) s.size) 6 (by unfold maxLen;omega) W
    have SY:=fun W=>il (s.extract (k+1) s.size) (by unfold maxLen;omega) W
    clear hsz;have a1:(0:Int)≤(k:Int):=DL;have a2:(k:Int)≤(s.size:Int):=DL;have a3:(0:Int)≤(k:Int)+1:=DL;have a4:(k:Int)+1≤(s.size:Int):=DL;have iw:IntKind.i64.wrap ((k:Int)+1)=(k:Int)+1:=IntWalk.i64_in _ DL;have tn:((k:Int)+1).toNat=k+1:=DL;go_wp2_with fail;go_quiet (fail);rcases h1:yA (s.extract 0 k).data.toList 6 with _|_
    ·have H1:=hide h1;rw[h1]at NX;clear h1;go_wp2_with(first|(go_at_call 205;with_reducible refine(NX _).mono ?_;rintro e w2 ⟨rfl,rfl⟩));go_ret3;exact⟨_,_,_,rfl,Yb DQ (QQ HC.out (.inl H1.out)),_,rfl⟩
    ·have H1:=hide h1;rw[h1]at NX;clear h1;rcases h2:yA (s.extract (k+1) s.size).data.toList 6 with _|_
     ·have H2:=hide h2;rw[h2]at NY;clear h2;rcases h3:kQ (s.extract (k+1) s.size).data.toList with _|_
      all_goals
       have H3:=hide h3;rw[h3]at SY;clear h3;go_wp2_with(first|(go_at_call 205;with_reducible refine(NX _).mono ?_;rintro e w2 ⟨rfl,rfl⟩)|(go_at_call 205;with_reducible refine(NY _).mono ?_;rintro e w2 ⟨rfl,rfl⟩)|(go_at_call 223;with_reducible refine(SY _).mono ?_;rintro e w2 ⟨rfl,rfl⟩));go_ret3
       first
        |exact⟨_,_,_,rfl,Yb DQ (QQ HC.out (.inr (by rw[H2.out,H3.out];rfl))),_,rfl⟩
        |exact⟨_,_,_,rfl,YO rfl (Jl HC.out H1.out (by rw[H2.out,H3.out];rfl)),_,rfl⟩
     ·have H2:=hide h2;rw[h2]at NY;clear h2;go_wp2_with(first|(go_at_call 205;with_reducible refine(NX _).mono ?_;rintro e w2 ⟨rfl,rfl⟩)|(go_at_call 205;with_reducible refine(NY _).mono ?_;rintro e w2 ⟨rfl,rfl⟩));go_ret3;exact⟨_,_,_,rfl,YO rfl (Jl HC.out H1.out (by rw[H2.out];rfl)),_,rfl⟩
   ·have hc1:((s[k].toNat:Int)==47)=false:=by
     rw[beq_eq_false_iff_ne];intro e;exact hc (UInt8.toNat_inj.1 (by have:s[k].toNat=47:=DL;rw[this];rfl))
    have hstep:Hid (47∉s.data.toList.take (k+1)):=hide (by
     rw[Ya s k hlt];intro hm;rcases List.mem_append.1 hm with hm|hm
     ·exact hA.out hm
     ·exact hc (by simpa using hm:(47:UInt8)=s[k]).symm)
    clear hc;go_wp2_with fail
    all_goals
     go_round
     case rel=>exact⟨k+1,by omega,by go_num,hstep⟩
     case measure=>simp[intOf];omega
  ·have hR:Hid (YA s.data.toList=false):=hide (by
    have h2:=hA.out;rw[List.take_of_length_le (by simp;omega)]at h2;unfold YA
    rw[VY h2])
   go_wp2_with fail;go_ret3;exact⟨_,_,_,rfl,Yb DQ hR.out,0,rfl⟩
def Qs(v:Value)(w:World)(e:Ending)(w':World):Prop:=e= .returned v∧∃n,w'=w.drewN n
theorem vS{s:ByteArray}(h:s.data.toList=[]):s=⟨#[]⟩:=by
 cases s with
 |mk d=>simp at h;rw[h]
theorem Yq{s:ByteArray}(h:s≠⟨#[]⟩):yM s false=1:=by
 unfold yM;rw[if_neg DS,if_neg (fun e=>h (vS e))]
theorem TT(s:ByteArray)(u:Bool)(hs:s.size≤maxLen)(w:World):
 Calls Tryz.prog 151 #[.string s,.bool u] w (Qs (Iv (yM s u)) w):=by
 rcases u with _|_
 ·by_cases h:s=⟨#[]⟩
  ·subst h;have HR:Hid (yM ⟨#[]⟩ false=0):=hide rfl;go_enter Tryz.func151,Tryz.ntmps151;go_wp2_with fail
   all_goals
    go_ret;exact⟨qI HR.out.symm,0,rfl⟩
  ·have HR:=hide (Yq h)
   have hl:s.toList=[]↔False:=by
    rw[Lib.toList_data];exact⟨fun e=>h (vS e),False.elim⟩
   have hl2:(s.toList==[])=false:=by
    rw[beq_eq_false_iff_ne];exact fun e=>hl.1 e
   have hl3:s.toList.isEmpty=false:=by
    cases hq:s.toList with
    |nil=>exact(hl.1 hq).elim
    |cons a b=>rfl
   clear h;go_enter Tryz.func151,Tryz.ntmps151;go_wp2_with fail
   all_goals first
    |(exfalso;simp_all;done)
    |(go_ret
      exact⟨qI HR.out.symm,0,rfl⟩)
 ·rcases hr:YA s.data.toList with _|_
  ·have HR:Hid (yM s true=5):=hide (by unfold yM;rw[hr];rfl);have H0:=hide hr;clear hr;go_enter Tryz.func151,Tryz.ntmps151;go_wp2_with fail;refine(UE s hs _).mono ?_;rintro e w1 ⟨x,y,c,rfl,hc,n,rfl⟩
   have hc0:(c !=0)=true:=by
    rw[bne_iff_ne];intro e;have:=hc.1 e;rw[H0.out]at this;cases this
   clear hc;go_wp2_with fail
   all_goals
    go_ret;exact⟨qI HR.out.symm,n,rfl⟩
  ·have HR:Hid (yM s true=0):=hide (by unfold yM;rw[hr];rfl);have H0:=hide hr;clear hr;go_enter Tryz.func151,Tryz.ntmps151;go_wp2_with fail;refine(UE s hs _).mono ?_;rintro e w1 ⟨x,y,c,rfl,hc,n,rfl⟩;obtain rfl:c=0:=hc.2 H0.out;clear hc;go_wp2_with fail
   all_goals
    go_ret;exact⟨qI HR.out.symm,n,rfl⟩
theorem Jm(s:ByteArray)(u:Bool)(hs:s.size≤maxLen)(w:World):
 Calls Tryz.prog 176 #[.string s,.bool u] w (Qs (Iv (yM s u)) w):=by
 rcases u with _|_
 ·by_cases h:s=⟨#[]⟩
  ·subst h;have HR:Hid (yM ⟨#[]⟩ false=0):=hide rfl;go_enter Tryz.func176,Tryz.ntmps176;go_wp2_with fail
   all_goals
    go_ret;exact⟨qI HR.out.symm,0,rfl⟩
  ·have HR:=hide (Yq h)
   have hl:s.toList=[]↔False:=by
    rw[Lib.toList_data];exact⟨fun e=>h (vS e),False.elim⟩
   have hl2:(s.toList==[])=false:=by
    rw[beq_eq_false_iff_ne];exact fun e=>hl.1 e
   have hl3:s.toList.isEmpty=false:=by
    cases hq:s.toList with
    |nil=>exact(hl.1 hq).elim
    |cons a b=>rfl
   clear h;go_enter Tryz.func176,Tryz.ntmps176;go_wp2_with fail
   all_goals first
    |(exfalso;simp_all;done)
    |(go_ret
      exact⟨qI HR.out.symm,0,rfl⟩)
 ·rcases hr:YA s.data.toList with _|_
  ·have HR:Hid (yM s true=5):=hide (by unfold yM;rw[hr];rfl);have H0:=hide hr;clear hr;go_enter Tryz.func176,Tryz.ntmps176;go_wp2_with fail;refine(VZ s hs _).mono ?_;rintro e w1 ⟨x,y,c,rfl,hc,n,rfl⟩
   have hc0:(c !=0)=true:=by
    rw[bne_iff_ne];intro e;have:=hc.1 e;rw[H0.out]at this;cases this
   clear hc;go_wp2_with fail
   all_goals
    go_ret;exact⟨qI HR.out.symm,n,rfl⟩
  ·have HR:Hid (yM s true=0):=hide (by unfold yM;rw[hr];rfl);have H0:=hide hr;clear hr;go_enter Tryz.func176,Tryz.ntmps176;go_wp2_with fail;refine(VZ s hs _).mono ?_;rintro e w1 ⟨x,y,c,rfl,hc,n,rfl⟩;obtain rfl:c=0:=hc.2 H0.out;clear hc;go_wp2_with fail
   all_goals
    go_ret;exact⟨qI HR.out.symm,n,rfl⟩
theorem Jn(n:Int)(u:Bool)(lo hi:Int)(w:World):
 Calls Tryz.prog 152 #[Iv n,.bool u,Iv lo,Iv hi] w fun e w'=>e= .returned (Iv (jS n u lo hi))∧w=w':=by
 rcases u with _|_
 ·by_cases h0:n=0
  ·subst h0;have HR:Hid (jS 0 false lo hi=0):=hide rfl;go_enter Tryz.func152,Tryz.ntmps152;go_wp2_with fail
   all_goals
    go_ret;exact⟨qI HR.out.symm,rfl⟩
  ·have HR:Hid (jS n false lo hi=1):=hide (by unfold jS;rw[if_neg DS,if_neg h0]);have hne:(n !=0)=true:=by simpa using h0
   have hne2:(n==0)=false:=by simpa using h0
   clear h0;go_enter Tryz.func152,Tryz.ntmps152;go_wp2_with fail
   all_goals
    go_ret;exact⟨qI HR.out.symm,rfl⟩
 ·have HR:Hid (jS n true lo hi=if n<lo∨n>hi then 2 else 0):=hide rfl;go_enter Tryz.func152,Tryz.ntmps152;go_wp2_with fail
  all_goals
   go_ret;exact⟨qI (by rw[HR.out];first|rw[if_pos DL]|rw[if_neg DL]),rfl⟩
theorem bE(n:Int)(u:Bool)(lo hi:Int)(w:World):
 Calls Tryz.prog 178 #[Iv n,Iv lo,Iv hi,.bool u] w fun e w'=>e= .returned (Iv (jS n u lo hi))∧w=w':=by
 rcases u with _|_
 ·by_cases h0:n=0
  ·subst h0;have HR:Hid (jS 0 false lo hi=0):=hide rfl;go_enter Tryz.func178,Tryz.ntmps178;go_wp2_with fail
   all_goals
    go_ret;exact⟨qI HR.out.symm,rfl⟩
  ·have HR:Hid (jS n false lo hi=1):=hide (by unfold jS;rw[if_neg DS,if_neg h0]);have hne:(n !=0)=true:=by simpa using h0
   have hne2:(n==0)=false:=by simpa using h0
   clear h0;go_enter Tryz.func178,Tryz.ntmps178;go_wp2_with fail
   all_goals
    go_ret;exact⟨qI HR.out.symm,rfl⟩
 ·have HR:Hid (jS n true lo hi=if n<lo∨n>hi then 2 else 0):=hide rfl;go_enter Tryz.func178,Tryz.ntmps178;go_wp2_with fail
  all_goals
   go_ret;exact⟨qI (by rw[HR.out];first|rw[if_pos DL]|rw[if_neg DL]),rfl⟩
end Go.Proofs.YtcgpbnlhnafhjaaGreatDoor
