/-
  Chapter 21 as plain functions: places, ways, which legs follow which, the check of a plan. No program.
-/
import Derived.Test.YtiegohjobhehcaaGreatDoorMStrP
namespace Go.Proofs.YtiegohjobhehcaaGreatDoor
set_option linter.unusedVariables false
def JH(l:List UInt8)(b:UInt8)(m:Int):Bool:=
 match Kt b l with
 |none=>kh l m
 |some (x,y)=>kh x m&&kh y m
def Qd(s:ByteArray):Bool:=decide (s.data.toList=[])||JH s.data.toList 47 6
def lS(s:ByteArray):Bool:=decide (s.data.toList=[])||JH s.data.toList 46 8
def Zo(t:Int):Bool:=decide (t=1∨t=3∨t=4)
def GQ(t:Int):Bool:=decide ((1≤t∧t≤6)∨(14≤t∧t≤17))
def GR(t:Int):Bool:=decide (11≤t∧t≤17)
def tu(a b:Int):Bool:=
 decide ((1≤a∧a≤17)∧(1≤b∧b≤17)∧((a≤6∧b≠1)∨(a=9∧b=3)∨(14≤a∧(b=2∨b=3∨b=4∨(7≤b∧b≤13)))∨((a=7∨a=8∨a=10∨a=11∨a=12)∧(b=3∨b=4∨(7≤b∧b≤10)))))
def Ke(y x:En):Bool:=tu y.ty x.ty&&(!GR x.ty||decide (y.fx=x.fx))
def xC(y x:En):Bool:=GQ y.ty&&decide (y.fx=x.fx)
def kX(x:En):Int:=
 if jW x≠0 then jW x else if x.sec<1∨x.sec>5 then 17 else if lS x.via=false then 5 else
 if(qw x.ex x.ey&&qw x.mx x.my)=false then 2 else
 if(x.fx=⟨#[]⟩∧¬(x.ex=0∧x.ey=0))∨(x.ct=⟨#[]⟩∧¬(x.mx=0∧x.my=0))then 1 else 0
def Kf:En:=⟨true,0,⟨#[]⟩,⟨#[]⟩,0,false,0,0,0,0,0,0,0,0,0,0,0,0,0,⟨#[]⟩⟩
def jB(x:En):Bool:=
 decide (x.ty=0)&&decide (x.fx=⟨#[]⟩)&&decide (x.ct=⟨#[]⟩)&&decide (x.tn=0)&& !x.ov&&decide (x.crs=0∧x.dst=0∧x.rad=0∧x.tht=0∧x.lo=0∧x.hi=0∧x.spd=0∧x.rnp=0∧x.ex=0∧x.ey=0∧x.mx=0∧x.my=0∧x.sec=0)&&decide (x.via=⟨#[]⟩)
def GS:Option En→Bool
 |none=>true
 |some y=>y.gap
def vI(pv:Option En)(x:En)(lastOne:Bool)(last:Int):Int×Int:=
 if x.gap=true then(if jB x=false then(1,last)else if(lastOne||GS pv)=true then(9,last)else(0,last))
 else if kX x≠0 then(kX x,last)
 else match pv with
  |none=>if Zo x.ty=false then(9,last)else if x.sec<last then(9,last)else(0,x.sec)
  |some y=>if y.gap=true then(if Zo x.ty=false then(9,last)else if x.sec<last then(9,last)else(0,x.sec))
   else if Ke y x=false then(9,last)else if(x.ty=2∨x.ty=4)∧xC y x=true then(7,last)else if x.sec<last then(9,last)else(0,x.sec)
def vY:Option En→Int→List En→Int
 |_,_,[]=>0
 |pv,last,x::r=>if(vI pv x r.isEmpty last).1≠0 then(vI pv x r.isEmpty last).1 else vY (some x) (vI pv x r.isEmpty last).2 r
def JI(l:List En)(i:Int):Bool:=
 match l[i.toNat]? with
 |some x=>x.gap
 |none=>false
def vw(a b:ByteArray)(l:List En)(act:Int):Int:=
 if(Qd a&&Qd b)=false then 5 else if(l.length:Int)>60 then 3 else if vY none 0 l≠0 then vY none 0 l else
 if act≠ -1∧(act<0∨act≥l.length∨JI l act=true)then 2 else 0
theorem lT{s x y:ByteArray}{b:UInt8}(h:ZL s b x y false)(m:Int):JH s.data.toList b m=kh x.data.toList m:=by
 rcases h with⟨h,_⟩|⟨_,h,rfl,_⟩
 ·cases h
 ·unfold JH;rw[h]
theorem lU{s x y:ByteArray}{b:UInt8}(h:ZL s b x y true)(m:Int):JH s.data.toList b m=(kh x.data.toList m&&kh y.data.toList m):=by
 rcases h with⟨_,h,_⟩|⟨h,_⟩
 ·unfold JH;rw[h]
 ·cases h
def kv(l:List En)(k:Nat):Option En:=if k=0 then none else l[k-1]?
theorem GU{l:List En}{k:Nat}{x:En}(h:l[k]? =some x)(last:Int):
 vY (kv l k) last (l.drop k)=if(vI (kv l k) x (decide (k+1=l.length)) last).1≠0 then(vI (kv l k) x (decide (k+1=l.length)) last).1 else vY (kv l (k+1)) (vI (kv l k) x (decide (k+1=l.length)) last).2 (l.drop (k+1)):=by
 obtain⟨hk,rfl⟩:=List.getElem?_eq_some_iff.1 h;rw[List.drop_eq_getElem_cons hk]
 have e1:kv l (k+1)=some l[k]:=by
  unfold kv;rw[if_neg qg,Nat.add_sub_cancel];exact h
 have e2:(l.drop (k+1)).isEmpty=decide (k+1=l.length):=by
  rw[Bool.eq_iff_iff];simp;omega
 rw[e1]
 show(if _ then _ else _)=_
 rw[e2]
theorem rJ{l:List En}{k:Nat}(h:l.length≤k)(last:Int):vY (kv l k) last (l.drop k)=0:=by
 rw[List.drop_of_length_le h];rfl
def AU:Option En→Bool
 |none=>false
 |some y=>y.gap
def Uj(x:En)(c:Int):Tk:=⟨1,x.ex,x.ey,x.ex,x.ey,0,0,0,0,0,if x.ty=3 then x.crs else c,if x.ty=3 then x.crs else c,0,0,true⟩
def zy(pv:Option En)(fx fy c alt:Int)(x y:En)(spd bank oalt gr:Int):Tk×Int:=
 if AU pv=true then(Uj x c,0)else qB fx fy c alt x y spd bank oalt gr
def tv(x:En)(alt:Int):Int:=if x.ty=7∨x.ty=11∨x.ty=14 then max alt x.lo else alt
def jV(r:List En):En:=r.headD Kf
def zU(spd bank oalt gr:Int):Option En→Nat→Int→Int→Int→Int→List En→List Tk×Int×Int
 |_,_,_,_,_,_,[]=>([],0,0)
 |pv,i,fx,fy,c,alt,x::r=>
  if x.gap=true then zU spd bank oalt gr (some x) (i+1) fx fy c alt r else
  if(zy pv fx fy c alt x (jV r) spd bank oalt gr).2≠0 then([],(i:Int),(zy pv fx fy c alt x (jV r) spd bank oalt gr).2)else
  if(zU spd bank oalt gr (some x) (i+1) (zy pv fx fy c alt x (jV r) spd bank oalt gr).1.bx (zy pv fx fy c alt x (jV r) spd bank oalt gr).1.b_y (zy pv fx fy c alt x (jV r) spd bank oalt gr).1.co (tv x alt) r).2.2≠0 then
   ([],(zU spd bank oalt gr (some x) (i+1) (zy pv fx fy c alt x (jV r) spd bank oalt gr).1.bx (zy pv fx fy c alt x (jV r) spd bank oalt gr).1.b_y (zy pv fx fy c alt x (jV r) spd bank oalt gr).1.co (tv x alt) r).2)
  else({(zy pv fx fy c alt x (jV r) spd bank oalt gr).1 with n:=(i:Int)}::(zU spd bank oalt gr (some x) (i+1) (zy pv fx fy c alt x (jV r) spd bank oalt gr).1.bx (zy pv fx fy c alt x (jV r) spd bank oalt gr).1.b_y (zy pv fx fy c alt x (jV r) spd bank oalt gr).1.co (tv x alt) r).1,0,0)
def zM(act:Int):Nat:=(max act 0).toNat
def zV(pa pb:ByteArray)(l:List En)(act fx fy c spd bank oalt gr:Int):List Tk×Int×Int:=
 if vw pa pb l act≠0 then([],0,vw pa pb l act)else if kJ spd bank oalt gr≠0 then([],0,kJ spd bank oalt gr)else
 if qw fx fy=false then([],0,1)else if c<0∨c≥129600000 then([],0,2)else
 zU spd bank oalt gr none (zM act) fx fy c oalt (l.drop (zM act))
def kW(l:List En)(bn k:Nat):Option En:=if k=bn then none else l[k-1]?
def kG(ts:List Tk)(r:List Tk×Int×Int):List Tk×Int×Int:=if r.2.2≠0 then([],r.2)else(ts++r.1,0,0)
theorem YQ(ts us:List Tk)(r:List Tk×Int×Int):kG ts (kG us r)=kG (ts++us) r:=by
 unfold kG;by_cases h:r.2.2≠0
 ·rw[if_pos h,if_pos h,if_pos h]
 ·rw[if_neg h,if_neg h,if_neg jL];simp
theorem GV{spd bank oalt gr:Int}(pv:Option En)(i:Nat)(fx fy c alt:Int):zU spd bank oalt gr pv i fx fy c alt []=([],0,0):=rfl
theorem vJ{spd bank oalt gr:Int}{pv:Option En}{i:Nat}{fx fy c alt:Int}{x:En}{r:List En}(h:x.gap=true):zU spd bank oalt gr pv i fx fy c alt (x::r)=zU spd bank oalt gr (some x) (i+1) fx fy c alt r:=by
 rw[zU,if_pos h]
theorem vK{spd bank oalt gr:Int}{pv:Option En}{i:Nat}{fx fy c alt e:Int}{x:En}{r:List En}{T:Tk}(h:x.gap=false)(ht:zy pv fx fy c alt x (jV r) spd bank oalt gr=(T,e))(he:e≠0):zU spd bank oalt gr pv i fx fy c alt (x::r)=([],(i:Int),e):=by
 rw[zU,if_neg (by rw[h];simp),ht,if_pos he]
theorem vN{spd bank oalt gr:Int}{pv:Option En}{i:Nat}{fx fy c alt:Int}{x:En}{r:List En}{T:Tk}(h:x.gap=false)(ht:zy pv fx fy c alt x (jV r) spd bank oalt gr=(T,0)):
 zU spd bank oalt gr pv i fx fy c alt (x::r)=kG [{T with n:=(i:Int)}] (zU spd bank oalt gr (some x) (i+1) T.bx T.b_y T.co (tv x alt) r):=by
 rw[zU,if_neg (by rw[h];simp),ht,if_neg jL];rfl
theorem JJ{spd bank oalt gr:Int}:∀(l:List En) (pv:Option En) (i:Nat) (fx fy c alt:Int),kG [] (zU spd bank oalt gr pv i fx fy c alt l)=zU spd bank oalt gr pv i fx fy c alt l
 | [],pv,i,fx,fy,c,alt=>rfl
 |x::r,pv,i,fx,fy,c,alt=>by
  rcases hg:x.gap with _|_
  ·by_cases he:(zy pv fx fy c alt x (jV r) spd bank oalt gr).2=0
   ·rw[vN (T:=(zy pv fx fy c alt x (jV r) spd bank oalt gr).1) hg (Prod.ext rfl he),YQ];rfl
   ·obtain⟨T,e,hT⟩:∃T e,zy pv fx fy c alt x (jV r) spd bank oalt gr=(T,e):=⟨_,_,rfl⟩;rw[hT]at he;rw[vK hg hT he];exact if_pos he
  ·rw[vJ hg];exact JJ r _ _ _ _ _ _
theorem Kg(l:List En)(k:Nat):jV (l.drop k)=(l[k]?).getD Kf:=by
 unfold jV;rw[List.headD_eq_head?_getD,List.head?_drop]
theorem Kh{l:List En}{bn k:Nat}{x:En}(hx:l[k]? =some x)(hk:bn≤k):kW l bn (k+1)=some x:=by
 unfold kW;rw[if_neg qg,Nat.add_sub_cancel,hx]
theorem rL{spd bank oalt gr fx fy c alt:Int}{l:List En}{bn k:Nat}{x:En}{ts:List Tk}{R:List Tk×Int×Int}(hx:l[k]? =some x)(hk:bn≤k)(hg:x.gap=true)(h:R=kG ts (zU spd bank oalt gr (kW l bn k) k fx fy c alt (l.drop k))):
 R=kG ts (zU spd bank oalt gr (kW l bn (k+1)) (k+1) fx fy c alt (l.drop (k+1))):=by
 obtain⟨hlt,he⟩:=List.getElem?_eq_some_iff.1 hx;rw[h,List.drop_eq_getElem_cons hlt,he,vJ hg,Kh hx hk]
theorem rM{spd bank oalt gr fx fy c alt e:Int}{l:List En}{bn k:Nat}{x y:En}{T:Tk}{ts:List Tk}{R:List Tk×Int×Int}(hx:l[k]? =some x)(hy:(l[k+1]?).getD Kf=y)(hg:x.gap=false)(ht:zy (kW l bn k) fx fy c alt x y spd bank oalt gr=(T,e))(he0:e≠0)
 (h:R=kG ts (zU spd bank oalt gr (kW l bn k) k fx fy c alt (l.drop k))):R=([],(k:Int),e):=by
 obtain⟨hlt,he⟩:=List.getElem?_eq_some_iff.1 hx;rw[h,List.drop_eq_getElem_cons hlt,he,vK hg (by rw[Kg,hy];exact ht) he0];unfold kG;rw[if_pos he0]
theorem rN{spd bank oalt gr fx fy c alt:Int}{l:List En}{bn k:Nat}{x y:En}{T:Tk}{ts:List Tk}{R:List Tk×Int×Int}(hx:l[k]? =some x)(hy:(l[k+1]?).getD Kf=y)(hk:bn≤k)(hg:x.gap=false)(ht:zy (kW l bn k) fx fy c alt x y spd bank oalt gr=(T,0))
 (h:R=kG ts (zU spd bank oalt gr (kW l bn k) k fx fy c alt (l.drop k))):R=kG (ts++[{T with n:=(k:Int)}]) (zU spd bank oalt gr (kW l bn (k+1)) (k+1) T.bx T.b_y T.co (tv x alt) (l.drop (k+1))):=by
 obtain⟨hlt,he⟩:=List.getElem?_eq_some_iff.1 hx;rw[h,List.drop_eq_getElem_cons hlt,he,vN hg (by rw[Kg,hy];exact ht),Kh hx hk,YQ]
theorem rO{spd bank oalt gr fx fy c alt:Int}{l:List En}{bn k:Nat}{ts:List Tk}{R:List Tk×Int×Int}(hk:l.length≤k)(h:R=kG ts (zU spd bank oalt gr (kW l bn k) k fx fy c alt (l.drop k))):R=(ts,0,0):=by
 rw[h,List.drop_of_length_le hk,GV];unfold kG;simp
def ZC(n:Int):Prop:= -9223372036854775808≤n∧n≤9223372036854775807
def wg(p:Tk×Int):Prop:=p.2=0→ZC p.1.co
theorem zx{q:Prop} [Decidable q]{a b:Tk×Int}(ha:wg a)(hb:wg b):wg (if q then a else b):=by
 split<;>assumption
theorem lV{n:Int}(h:0≤n∧n<129600000):ZC n:=by unfold ZC;omega
theorem pI(ax ay bx b_y:Int):ZC (qO ax ay bx b_y).1:=by
 unfold qO;split
 ·unfold ZC;decide
 ·split
  ·unfold ZC;decide
  ·exact lV (gI _ _)
theorem AV:ZC 0:=by unfold ZC;decide
theorem zR(e:Int):wg (Tk.zero,e):=fun _=>AV
theorem Zp(ax ay:Int){c:Int}(l:Int)(h:ZC c):wg (bi ax ay c l):=by
 unfold bi;exact zx (fun _=>h) (zR _)
theorem Qe(ax ay bx b_y:Int){c:Int}(h:ZC c):wg (zF ax ay bx b_y c,0):=by
 intro _;unfold zF;split
 ·exact h
 ·exact pI _ _ _ _
theorem Rb(cx cy r f s d:Int):ZC (jJ cx cy r f s d).2.2.1:=by
 unfold jJ;split
 ·unfold ZC;decide
 split
 ·unfold ZC;decide
 split
 ·exact lV (jP _)
 ·unfold ZC;decide
theorem Mt(fx fy:Int)(x:En):wg (vA fx fy x):=by
 unfold vA;refine zx (zR _) ?_;split
 ·exact zx (zR _) (zx (zR _) (zx (zR _) (fun _=>Rb _ _ _ _ _ _)))
 ·exact zR _
theorem Mu(fx fy:Int){c:Int}{x:En}(h:ZC c)(hx:ZC x.crs):wg (ux fx fy c x):=by
 unfold ux;exact zx (zR _) (zx (zR _) (zx (zR _) (zx (Qe _ _ _ _ h) (zx (zR _) (fun _=>hx)))))
theorem Uk(fx fy alt:Int){x:En}(gr:Int)(hx:ZC x.crs):wg (kq fx fy alt x gr):=by
 unfold kq;exact zx (zR _) (Zp _ _ _ hx)
theorem lW(a b:Int){c:Int}(h:ZC c):wg (Qt a b c):=by
 unfold Qt;split
 ·rename_i h1;exact fun _=>Zp a b 300000 h h1
 ·exact Zp _ _ _ h
theorem Rc(fx fy:Int){x:En}(hx:ZC x.crs):wg (vV fx fy x):=by
 unfold vV;exact zx (zR _) (zx (zR _) (zx (zR _) (zx (Zp _ _ _ hx) (zx (zR _) (Zp _ _ _ hx)))))
theorem Rd(fx fy:Int){x:En}(hx:ZC x.crs):wg (uQ fx fy x):=by
 unfold uQ;exact zx (zR _) (zx (zR _) (zx (zR _) (zx (zR _) (fun _=>hx))))
theorem Re(fx fy:Int){x:En}(y:En)(hx:ZC x.crs):wg (kK fx fy x y):=by
 unfold kK;exact zx (zR _) (zx (zR _) (zx (zR _) (zx (zR _) (zx (zR _) (fun _=>hx)))))
theorem Mv(fx fy alt:Int){c:Int}{x:En}(y:En)(gr:Int)(h:ZC c)(hx:ZC x.crs):wg (uT fx fy c alt x y gr):=by
 unfold uT;refine zx (Qe _ _ _ _ h) (zx (Qe _ _ _ _ h) (zx (Mu _ _ h hx) (zx (Mt _ _ _) (zx (Uk _ _ _ _ hx) (zx (Uk _ _ _ _ hx) (zx (Zp _ _ _ hx) (zx (lW _ _ hx) (zx (Rc _ _ hx) (zx (Rd _ _ hx) (zx (Re _ _ _ hx) (fun _=> ?_)))))))))))
 show ZC (if x.ty=17 then norm (x.crs+64800000)else x.crs)
 split
 ·exact lV (jP _)
 ·exact hx
theorem Mw(fx fy alt:Int){c:Int}{x:En}(y:En)(spd bank oalt gr:Int)(h:ZC c)(hx:ZC x.crs):wg (qB fx fy c alt x y spd bank oalt gr):=by
 unfold qB;exact zx (zR _) (zx (zR _) (zx (zR _) (zx (zR _) (zx (zR _) (Mv _ _ _ _ _ h hx)))))
theorem rP(pv:Option En)(fx fy alt:Int){c:Int}{x:En}(y:En)(spd bank oalt gr:Int)(h:ZC c)(hx:ZC x.crs):wg (zy pv fx fy c alt x y spd bank oalt gr):=by
 unfold zy;refine zx (fun _=> ?_) (Mw _ _ _ _ _ _ _ _ h hx)
 show ZC (if x.ty=3 then x.crs else c)
 split<;>assumption
theorem Rf{x:En}{alt:Int}(h:ZC alt)(hx:ZC x.lo):ZC (tv x alt):=by
 unfold tv;unfold ZC at*;split<;>omega
end Go.Proofs.YtiegohjobhehcaaGreatDoor
