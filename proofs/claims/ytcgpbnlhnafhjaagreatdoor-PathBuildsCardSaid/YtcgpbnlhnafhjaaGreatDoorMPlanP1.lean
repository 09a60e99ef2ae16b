/-
  Chapter 21 as plain functions: places, ways, which legs follow which, the check of a plan. No program.
-/
import Derived.Test.YtcgpbnlhnafhjaaGreatDoorMStrP
namespace Go.Proofs.YtcgpbnlhnafhjaaGreatDoor
set_option linter.unusedVariables false
def tk(l:List UInt8)(b:UInt8)(m:Int):Bool:=
 match VR b l with
 |none=>yA l m
 |some (x,y)=>yA x m&&yA y m
def kO(s:ByteArray):Bool:=decide (s.data.toList=[])||tk s.data.toList 47 6
def Bz(s:ByteArray):Bool:=decide (s.data.toList=[])||tk s.data.toList 46 8
def bM(t:Int):Bool:=decide (t=1∨t=3∨t=4)
def ZY(t:Int):Bool:=decide ((1≤t∧t≤6)∨(14≤t∧t≤17))
def QZ(t:Int):Bool:=decide (11≤t∧t≤17)
def yY(a b:Int):Bool:=
 decide ((1≤a∧a≤17)∧(1≤b∧b≤17)∧((a≤6∧b≠1)∨(a=9∧b=3)∨(14≤a∧(b=2∨b=3∨b=4∨(7≤b∧b≤13)))∨((a=7∨a=8∨a=10∨a=11∨a=12)∧(b=3∨b=4∨(7≤b∧b≤10)))))
def Qj(y x:En):Bool:=yY y.ty x.ty&&(!QZ x.ty||decide (y.fx=x.fx))
def kW(y x:En):Bool:=ZY y.ty&&decide (y.fx=x.fx)
def ku(x:En):Int:=
 if zU x≠0 then zU x else if x.sec<1∨x.sec>5 then 17 else if Bz x.via=false then 5 else
 if(qw x.ex x.ey&&qw x.mx x.my)=false then 2 else
 if(x.fx=⟨#[]⟩∧¬(x.ex=0∧x.ey=0))∨(x.ct=⟨#[]⟩∧¬(x.mx=0∧x.my=0))then 1 else 0
def Qk:En:=⟨true,0,⟨#[]⟩,⟨#[]⟩,0,false,0,0,0,0,0,0,0,0,0,0,0,0,0,⟨#[]⟩⟩
def jn(x:En):Bool:=
 decide (x.ty=0)&&decide (x.fx=⟨#[]⟩)&&decide (x.ct=⟨#[]⟩)&&decide (x.tn=0)&& !x.ov&&decide (x.crs=0∧x.dst=0∧x.rad=0∧x.tht=0∧x.lo=0∧x.hi=0∧x.spd=0∧x.rnp=0∧x.ex=0∧x.ey=0∧x.mx=0∧x.my=0∧x.sec=0)&&decide (x.via=⟨#[]⟩)
def Yz:Option En→Bool
 |none=>true
 |some y=>y.gap
def yQ(pv:Option En)(x:En)(lastOne:Bool)(last:Int):Int×Int:=
 if x.gap=true then(if jn x=false then(1,last)else if(lastOne||Yz pv)=true then(9,last)else(0,last))
 else if ku x≠0 then(ku x,last)
 else match pv with
  |none=>if bM x.ty=false then(9,last)else if x.sec<last then(9,last)else(0,x.sec)
  |some y=>if y.gap=true then(if bM x.ty=false then(9,last)else if x.sec<last then(9,last)else(0,x.sec))
   else if Qj y x=false then(9,last)else if(x.ty=2∨x.ty=4)∧kW y x=true then(7,last)else if x.sec<last then(9,last)else(0,x.sec)
def yH:Option En→Int→List En→Int
 |_,_,[]=>0
 |pv,last,x::r=>if(yQ pv x r.isEmpty last).1≠0 then(yQ pv x r.isEmpty last).1 else yH (some x) (yQ pv x r.isEmpty last).2 r
def bJ(l:List En)(i:Int):Bool:=
 match l[i.toNat]? with
 |some x=>x.gap
 |none=>false
def jR(a b:ByteArray)(l:List En)(act:Int):Int:=
 if(kO a&&kO b)=false then 5 else if(l.length:Int)>60 then 3 else if yH none 0 l≠0 then yH none 0 l else
 if act≠ -1∧(act<0∨act≥l.length∨bJ l act=true)then 2 else 0
theorem aW{s x y:ByteArray}{b:UInt8}(h:xN s b x y false)(m:Int):tk s.data.toList b m=yA x.data.toList m:=by
 rcases h with⟨h,_⟩|⟨_,h,rfl,_⟩
 ·cases h
 ·unfold tk;rw[h]
theorem Ta{s x y:ByteArray}{b:UInt8}(h:xN s b x y true)(m:Int):tk s.data.toList b m=(yA x.data.toList m&&yA y.data.toList m):=by
 rcases h with⟨_,h,_⟩|⟨h,_⟩
 ·unfold tk;rw[h]
 ·cases h
def yw(l:List En)(k:Nat):Option En:=if k=0 then none else l[k-1]?
theorem Tb{l:List En}{k:Nat}{x:En}(h:l[k]? =some x)(last:Int):
 yH (yw l k) last (l.drop k)=if(yQ (yw l k) x (decide (k+1=l.length)) last).1≠0 then(yQ (yw l k) x (decide (k+1=l.length)) last).1 else yH (yw l (k+1)) (yQ (yw l k) x (decide (k+1=l.length)) last).2 (l.drop (k+1)):=by
 obtain⟨hk,rfl⟩:=List.getElem?_eq_some_iff.1 h;rw[List.drop_eq_getElem_cons hk]
 have e1:yw l (k+1)=some l[k]:=by
  unfold yw;rw[if_neg DL,Nat.add_sub_cancel];exact h
 have e2:(l.drop (k+1)).isEmpty=decide (k+1=l.length):=by
  rw[Bool.eq_iff_iff];simp;omega
 rw[e1]
 show(if _ then _ else _)=_
 rw[e2]
theorem Uk{l:List En}{k:Nat}(h:l.length≤k)(last:Int):yH (yw l k) last (l.drop k)=0:=by
 rw[List.drop_of_length_le h];rfl
def Wp:Option En→Bool
 |none=>false
 |some y=>y.gap
def Ql(x:En)(c:Int):Tk:=⟨1,x.ex,x.ey,x.ex,x.ey,0,0,0,0,0,if x.ty=3 then x.crs else c,if x.ty=3 then x.crs else c,0,0,true⟩
def zx(pv:Option En)(fx fy c alt:Int)(x y:En)(spd bank oalt gr:Int):Tk×Int:=
 if Wp pv=true then(Ql x c,0)else qp fx fy c alt x y spd bank oalt gr
def kK(x:En)(alt:Int):Int:=if x.ty=7∨x.ty=11∨x.ty=14 then max alt x.lo else alt
def yz(r:List En):En:=r.headD Qk
def zS(spd bank oalt gr:Int):Option En→Nat→Int→Int→Int→Int→List En→List Tk×Int×Int
 |_,_,_,_,_,_,[]=>([],0,0)
 |pv,i,fx,fy,c,alt,x::r=>
  if x.gap=true then zS spd bank oalt gr (some x) (i+1) fx fy c alt r else
  if(zx pv fx fy c alt x (yz r) spd bank oalt gr).2≠0 then([],(i:Int),(zx pv fx fy c alt x (yz r) spd bank oalt gr).2)else
  if(zS spd bank oalt gr (some x) (i+1) (zx pv fx fy c alt x (yz r) spd bank oalt gr).1.bx (zx pv fx fy c alt x (yz r) spd bank oalt gr).1.b_y (zx pv fx fy c alt x (yz r) spd bank oalt gr).1.co (kK x alt) r).2.2≠0 then
   ([],(zS spd bank oalt gr (some x) (i+1) (zx pv fx fy c alt x (yz r) spd bank oalt gr).1.bx (zx pv fx fy c alt x (yz r) spd bank oalt gr).1.b_y (zx pv fx fy c alt x (yz r) spd bank oalt gr).1.co (kK x alt) r).2)
  else({(zx pv fx fy c alt x (yz r) spd bank oalt gr).1 with n:=(i:Int)}::(zS spd bank oalt gr (some x) (i+1) (zx pv fx fy c alt x (yz r) spd bank oalt gr).1.bx (zx pv fx fy c alt x (yz r) spd bank oalt gr).1.b_y (zx pv fx fy c alt x (yz r) spd bank oalt gr).1.co (kK x alt) r).1,0,0)
def zM(act:Int):Nat:=(max act 0).toNat
def zr(pa pb:ByteArray)(l:List En)(act fx fy c spd bank oalt gr:Int):List Tk×Int×Int:=
 if jR pa pb l act≠0 then([],0,jR pa pb l act)else if jY spd bank oalt gr≠0 then([],0,jY spd bank oalt gr)else
 if qw fx fy=false then([],0,1)else if c<0∨c≥129600000 then([],0,2)else
 zS spd bank oalt gr none (zM act) fx fy c oalt (l.drop (zM act))
theorem jI{p:Prop} [Decidable p]{a b:Tk×Int}(ha:a.1.g=false)(hb:b.1.g=false):(if p then a else b).1.g=false:=by
 split<;>assumption
theorem Zr(a b d e k:Int):(zf a b d e k).g=false:=by unfold zf;split<;>rfl
theorem Ul(a b d e:Int):(kf a b d e).1.g=false:=by unfold kf;exact jI rfl rfl
theorem Mf(fx fy c:Int)(x:En):(vp fx fy c x).1.g=false:=by
 unfold vp;exact jI rfl (jI rfl (jI rfl (jI (Zr _ _ _ _ _) (jI rfl rfl))))
theorem Mg(fx fy:Int)(x:En):(jZ fx fy x).1.g=false:=by
 unfold jZ;refine jI rfl ?_;split
 ·exact jI rfl (jI rfl (jI rfl rfl))
 ·rfl
theorem mR(fx fy alt:Int)(x:En)(gr:Int):(yS fx fy alt x gr).1.g=false:=by
 unfold yS;exact jI rfl (Ul _ _ _ _)
theorem Nc(a b c:Int):(gG a b c).1.g=false:=by
 unfold gG;exact jI (Ul _ _ _ _) (Ul _ _ _ _)
theorem Db(fx fy:Int)(x:En):(yt fx fy x).1.g=false:=by
 unfold yt;exact jI rfl (jI rfl (jI rfl (jI (Ul _ _ _ _) (jI rfl (Ul _ _ _ _)))))
theorem Dc(fx fy:Int)(x:En):(vR fx fy x).1.g=false:=by
 unfold vR;exact jI rfl (jI rfl (jI rfl (jI rfl rfl)))
theorem Dd(fx fy:Int)(x y:En):(yD fx fy x y).1.g=false:=by
 unfold yD;exact jI rfl (jI rfl (jI rfl (jI rfl (jI rfl rfl))))
theorem Mh(fx fy c alt:Int)(x y:En)(gr:Int):(yT fx fy c alt x y gr).1.g=false:=by
 unfold yT;exact jI (Zr _ _ _ _ _) (jI (Zr _ _ _ _ _) (jI (Mf _ _ _ _) (jI (Mg _ _ _) (jI (mR _ _ _ _ _) (jI (mR _ _ _ _ _) (jI (Ul _ _ _ _) (jI (Nc _ _ _) (jI (Db _ _ _) (jI (Dc _ _ _) (jI (Dd _ _ _ _) rfl))))))))))
theorem cQ{fx fy c alt:Int}{x y:En}{spd bank oalt gr:Int}{t:Tk}(h:qp fx fy c alt x y spd bank oalt gr=(t,0)):t.g=false:=by
 have key:(qp fx fy c alt x y spd bank oalt gr).1.g=false:=by
  unfold qp;exact jI rfl (jI rfl (jI rfl (jI rfl (jI rfl (Mh _ _ _ _ _ _ _)))))
 rw[h]at key;exact key
def yR(l:List En)(bn k:Nat):Option En:=if k=bn then none else l[k-1]?
def vZ(ts:List Tk)(r:List Tk×Int×Int):List Tk×Int×Int:=if r.2.2≠0 then([],r.2)else(ts++r.1,0,0)
theorem Ym(ts us:List Tk)(r:List Tk×Int×Int):vZ ts (vZ us r)=vZ (ts++us) r:=by
 unfold vZ;by_cases h:r.2.2≠0
 ·rw[if_pos h,if_pos h,if_pos h]
 ·rw[if_neg h,if_neg h,if_neg DS];simp
theorem Tc{spd bank oalt gr:Int}(pv:Option En)(i:Nat)(fx fy c alt:Int):zS spd bank oalt gr pv i fx fy c alt []=([],0,0):=rfl
theorem uk{spd bank oalt gr:Int}{pv:Option En}{i:Nat}{fx fy c alt:Int}{x:En}{r:List En}(h:x.gap=true):zS spd bank oalt gr pv i fx fy c alt (x::r)=zS spd bank oalt gr (some x) (i+1) fx fy c alt r:=by
 rw[zS,if_pos h]
theorem ul{spd bank oalt gr:Int}{pv:Option En}{i:Nat}{fx fy c alt e:Int}{x:En}{r:List En}{T:Tk}(h:x.gap=false)(ht:zx pv fx fy c alt x (yz r) spd bank oalt gr=(T,e))(he:e≠0):zS spd bank oalt gr pv i fx fy c alt (x::r)=([],(i:Int),e):=by
 rw[zS,if_neg (by rw[h];simp),ht,if_pos he]
theorem yZ{spd bank oalt gr:Int}{pv:Option En}{i:Nat}{fx fy c alt:Int}{x:En}{r:List En}{T:Tk}(h:x.gap=false)(ht:zx pv fx fy c alt x (yz r) spd bank oalt gr=(T,0)):
 zS spd bank oalt gr pv i fx fy c alt (x::r)=vZ [{T with n:=(i:Int)}] (zS spd bank oalt gr (some x) (i+1) T.bx T.b_y T.co (kK x alt) r):=by
 rw[zS,if_neg (by rw[h];simp),ht,if_neg DS];rfl
theorem ZZ{spd bank oalt gr:Int}:∀(l:List En) (pv:Option En) (i:Nat) (fx fy c alt:Int),vZ [] (zS spd bank oalt gr pv i fx fy c alt l)=zS spd bank oalt gr pv i fx fy c alt l
 | [],pv,i,fx,fy,c,alt=>rfl
 |x::r,pv,i,fx,fy,c,alt=>by
  rcases hg:x.gap with _|_
  ·by_cases he:(zx pv fx fy c alt x (yz r) spd bank oalt gr).2=0
   ·rw[yZ (T:=(zx pv fx fy c alt x (yz r) spd bank oalt gr).1) hg (Prod.ext rfl he),Ym];rfl
   ·obtain⟨T,e,hT⟩:∃T e,zx pv fx fy c alt x (yz r) spd bank oalt gr=(T,e):=⟨_,_,rfl⟩;rw[hT]at he;rw[ul hg hT he];exact if_pos he
  ·rw[uk hg];exact ZZ r _ _ _ _ _ _
theorem VL(l:List En)(k:Nat):yz (l.drop k)=(l[k]?).getD Qk:=by
 unfold yz;rw[List.headD_eq_head?_getD,List.head?_drop]
theorem xD{l:List En}{bn k:Nat}{x:En}(hx:l[k]? =some x)(hk:bn≤k):yR l bn (k+1)=some x:=by
 unfold yR;rw[if_neg DL,Nat.add_sub_cancel,hx]
theorem Um{spd bank oalt gr fx fy c alt:Int}{l:List En}{bn k:Nat}{x:En}{ts:List Tk}{R:List Tk×Int×Int}(hx:l[k]? =some x)(hk:bn≤k)(hg:x.gap=true)(h:R=vZ ts (zS spd bank oalt gr (yR l bn k) k fx fy c alt (l.drop k))):
 R=vZ ts (zS spd bank oalt gr (yR l bn (k+1)) (k+1) fx fy c alt (l.drop (k+1))):=by
 obtain⟨hlt,he⟩:=List.getElem?_eq_some_iff.1 hx;rw[h,List.drop_eq_getElem_cons hlt,he,uk hg,xD hx hk]
theorem Un{spd bank oalt gr fx fy c alt e:Int}{l:List En}{bn k:Nat}{x y:En}{T:Tk}{ts:List Tk}{R:List Tk×Int×Int}(hx:l[k]? =some x)(hy:(l[k+1]?).getD Qk=y)(hg:x.gap=false)(ht:zx (yR l bn k) fx fy c alt x y spd bank oalt gr=(T,e))(he0:e≠0)
 (h:R=vZ ts (zS spd bank oalt gr (yR l bn k) k fx fy c alt (l.drop k))):R=([],(k:Int),e):=by
 obtain⟨hlt,he⟩:=List.getElem?_eq_some_iff.1 hx;rw[h,List.drop_eq_getElem_cons hlt,he,ul hg (by rw[VL,hy];exact ht) he0];unfold vZ;rw[if_pos he0]
theorem Uo{spd bank oalt gr fx fy c alt:Int}{l:List En}{bn k:Nat}{x y:En}{T:Tk}{ts:List Tk}{R:List Tk×Int×Int}(hx:l[k]? =some x)(hy:(l[k+1]?).getD Qk=y)(hk:bn≤k)(hg:x.gap=false)(ht:zx (yR l bn k) fx fy c alt x y spd bank oalt gr=(T,0))
 (h:R=vZ ts (zS spd bank oalt gr (yR l bn k) k fx fy c alt (l.drop k))):R=vZ (ts++[{T with n:=(k:Int)}]) (zS spd bank oalt gr (yR l bn (k+1)) (k+1) T.bx T.b_y T.co (kK x alt) (l.drop (k+1))):=by
 obtain⟨hlt,he⟩:=List.getElem?_eq_some_iff.1 hx;rw[h,List.drop_eq_getElem_cons hlt,he,yZ hg (by rw[VL,hy];exact ht),xD hx hk,Ym]
theorem Uq{spd bank oalt gr fx fy c alt:Int}{l:List En}{bn k:Nat}{ts:List Tk}{R:List Tk×Int×Int}(hk:l.length≤k)(h:R=vZ ts (zS spd bank oalt gr (yR l bn k) k fx fy c alt (l.drop k))):R=(ts,0,0):=by
 rw[h,List.drop_of_length_le hk,Tc];unfold vZ;simp
def QW(n:Int):Prop:= -9223372036854775808≤n∧n≤9223372036854775807
def wt(p:Tk×Int):Prop:=p.2=0→QW p.1.co
theorem zC{q:Prop} [Decidable q]{a b:Tk×Int}(ha:wt a)(hb:wt b):wt (if q then a else b):=by
 split<;>assumption
theorem aX{n:Int}(h:0≤n∧n<129600000):QW n:=by unfold QW;omega
theorem pu(ax ay bx b_y:Int):QW (qN ax ay bx b_y).1:=by
 unfold qN;split
 ·unfold QW;decide
 ·split
  ·unfold QW;decide
  ·exact aX (uU _ _)
theorem Mi:QW 0:=by unfold QW;decide
theorem zT(e:Int):wt (Tk.zero,e):=fun _=>Mi
theorem QK(ax ay:Int){c:Int}(l:Int)(h:QW c):wt (kf ax ay c l):=by
 unfold kf;exact zC (fun _=>h) (zT _)
theorem xF(ax ay bx b_y:Int){c:Int}(h:QW c):wt (zf ax ay bx b_y c,0):=by
 intro _;unfold zf;split
 ·exact h
 ·exact pu _ _ _ _
theorem Nd(cx cy r f s d:Int):QW (jp cx cy r f s d).2.2.1:=by
 unfold jp;split
 ·unfold QW;decide
 split
 ·unfold QW;decide
 split
 ·exact aX (zH _)
 ·unfold QW;decide
theorem Wq(fx fy:Int)(x:En):wt (jZ fx fy x):=by
 unfold jZ;refine zC (zT _) ?_;split
 ·exact zC (zT _) (zC (zT _) (zC (zT _) (fun _=>Nd _ _ _ _ _ _)))
 ·exact zT _
theorem Wr(fx fy:Int){c:Int}{x:En}(h:QW c)(hx:QW x.crs):wt (vp fx fy c x):=by
 unfold vp;exact zC (zT _) (zC (zT _) (zC (zT _) (zC (xF _ _ _ _ h) (zC (zT _) (fun _=>hx)))))
theorem Ur(fx fy alt:Int){x:En}(gr:Int)(hx:QW x.crs):wt (yS fx fy alt x gr):=by
 unfold yS;exact zC (zT _) (QK _ _ _ hx)
theorem aY(a b:Int){c:Int}(h:QW c):wt (gG a b c):=by
 unfold gG;split
 ·rename_i h1;exact fun _=>QK a b 300000 h h1
 ·exact QK _ _ _ h
theorem Nf(fx fy:Int){x:En}(hx:QW x.crs):wt (yt fx fy x):=by
 unfold yt;exact zC (zT _) (zC (zT _) (zC (zT _) (zC (QK _ _ _ hx) (zC (zT _) (QK _ _ _ hx)))))
theorem Ng(fx fy:Int){x:En}(hx:QW x.crs):wt (vR fx fy x):=by
 unfold vR;exact zC (zT _) (zC (zT _) (zC (zT _) (zC (zT _) (fun _=>hx))))
theorem Nh(fx fy:Int){x:En}(y:En)(hx:QW x.crs):wt (yD fx fy x y):=by
 unfold yD;exact zC (zT _) (zC (zT _) (zC (zT _) (zC (zT _) (zC (zT _) (fun _=>hx)))))
theorem Ws(fx fy alt:Int){c:Int}{x:En}(y:En)(gr:Int)(h:QW c)(hx:QW x.crs):wt (yT fx fy c alt x y gr):=by
 unfold yT;refine zC (xF _ _ _ _ h) (zC (xF _ _ _ _ h) (zC (Wr _ _ h hx) (zC (Wq _ _ _) (zC (Ur _ _ _ _ hx) (zC (Ur _ _ _ _ hx) (zC (QK _ _ _ hx) (zC (aY _ _ hx) (zC (Nf _ _ hx) (zC (Ng _ _ hx) (zC (Nh _ _ _ hx) (fun _=> ?_)))))))))))
 show QW (if x.ty=17 then norm (x.crs+64800000)else x.crs)
 split
 ·exact aX (zH _)
 ·exact hx
theorem Wt(fx fy alt:Int){c:Int}{x:En}(y:En)(spd bank oalt gr:Int)(h:QW c)(hx:QW x.crs):wt (qp fx fy c alt x y spd bank oalt gr):=by
 unfold qp;exact zC (zT _) (zC (zT _) (zC (zT _) (zC (zT _) (zC (zT _) (Ws _ _ _ _ _ h hx)))))
theorem Us(pv:Option En)(fx fy alt:Int){c:Int}{x:En}(y:En)(spd bank oalt gr:Int)(h:QW c)(hx:QW x.crs):wt (zx pv fx fy c alt x y spd bank oalt gr):=by
 unfold zx;refine zC (fun _=> ?_) (Wt _ _ _ _ _ _ _ _ h hx)
 show QW (if x.ty=3 then x.crs else c)
 split<;>assumption
theorem aZ{x:En}{alt:Int}(h:QW alt)(hx:QW x.lo):QW (kK x alt):=by
 unfold kK;unfold QW at*;split<;>omega
end Go.Proofs.YtcgpbnlhnafhjaaGreatDoor
