/-
  Distances along a path: nodes, and the ends of its elements. No program.
-/
import Derived.Test.YtcgpbnlhnafhjaaGreatDoorMBuildV
namespace Go.Proofs.YtcgpbnlhnafhjaaGreatDoor
set_option linter.unusedVariables false
set_option linter.unusedSimpArgs false
def Qf:List El→Int→Int
 | [],_=>0
 |x::l,e=>(if x.n≤e then x.L else 0)+Qf l e
def mr(l:List El)(len e:Int):Int×Int:=if¬uV l len=0 then(0,uV l len)else(Qf l e,0)
theorem VC(x:El)(l:List El)(e:Int):Qf (x::l) e=(if x.n≤e then x.L else 0)+Qf l e:=rfl
theorem wT{l:List El}{k:Nat}{x:El}(hx:l[k]? =some x)(e:Int):Qf (l.take (k+1)) e=Qf (l.take k) e+(if x.n≤e then x.L else 0):=by
 induction l generalizing k with
 |nil=>simp at hx
 |cons y l ih=>
  cases k with
  |zero=>
   simp at hx;subst hx;simp[Qf]
  |succ k=>
   simp at hx;rw[List.take_succ_cons,List.take_succ_cons,VC,VC,ih hx];omega
theorem sU:uD 251 3000=(9541,0):=by decide+kernel
theorem mA:qY 0 (-30000) 0 0=30000:=YG (by decide+kernel) 30000 (by decide+kernel) (by decide+kernel)
theorem mC:qY 0 0 30000 0=30000:=YG (by decide+kernel) 30000 (by decide+kernel) (by decide+kernel)
theorem mD:qY 0 (-30000) 0 (-9541)=20459:=YG (by decide+kernel) 20459 (by decide+kernel) (by decide+kernel)
theorem mE:qY 9541 0 30000 0=20459:=YG (by decide+kernel) 20459 (by decide+kernel) (by decide+kernel)
theorem mF:qN 0 (-30000) 0 0=(0,0):=by
 unfold qN;rw[show(0:Int)-0=0 from rfl,show(0:Int)- -30000=30000 from rfl,Zk 30000 DQ];decide+kernel
theorem mG:qN 0 0 30000 0=(32400000,0):=by
 unfold qN;rw[show(0:Int)-0=0 from rfl,show(30000:Int)-0=30000 from rfl,Vq 30000 DQ];decide+kernel
theorem Wd:qN 0 (-30000) 0 (-9541)=(0,0):=by
 unfold qN;rw[show(0:Int)-0=0 from rfl,show(-9541:Int)- -30000=20459 from rfl,Zk 20459 DQ];decide+kernel
theorem cw:qR 1 9541 (jO 16200000) (yF 16200000)=(9541,0):=by decide+kernel
theorem sV:bg 0 (-30000) 0 0 30000 0 9541=([9541,-9541,9541,97200000,32400000,0,-9541,9541,0,9541],0):=by
 unfold bg;rw[mA,mC,show(0:Int)-0=0 from rfl,show(0:Int)- -30000=30000 from rfl,show(30000:Int)-0=30000 from rfl,Vq 30000 DQ,Zk 30000 DQ];decide+kernel
theorem JM:qX 9541 (-9541) 9541 97200000 16200000=7493:=by decide+kernel
theorem Ua:qX 9541 (-9541) 9541 113400000 16200000=7493:=by decide+kernel
theorem sY:jp 9541 (-9541) 9541 97200000 16200000 7493=(2794,-2794,16200000,0):=by decide+kernel
def uI:List El:=
 [⟨false,0,-30000,0,-9541,0,0,0,0,0,20459,1,false⟩,⟨true,0,-9541,2794,-2794,9541,-9541,9541,97200000,16200000,7493,1,false⟩,
  ⟨true,2794,-2794,9541,0,9541,-9541,9541,113400000,16200000,7493,2,false⟩,⟨false,9541,0,30000,0,0,0,0,0,0,20459,2,false⟩]
theorem Dt:bK false 0 (-30000) 0 (-9541) 0 0 0 0 0 20459=0:=by
 unfold bK;rw[show(qw 0 (-30000)&&qw 0 (-9541))=true from by decide+kernel,mD];rw[if_neg DQ,if_neg DQ,if_neg DQ,if_neg DQ]
theorem Du:bK false 9541 0 30000 0 0 0 0 0 0 20459=0:=by
 unfold bK;rw[show(qw 9541 0&&qw 30000 0)=true from by decide+kernel,mE];rw[if_neg DQ,if_neg DQ,if_neg DQ,if_neg DQ]
theorem Dv:bK true 0 (-9541) 2794 (-2794) 9541 (-9541) 9541 97200000 16200000 7493=0:=by
 unfold bK
 rw[show(qw 0 (-9541)&&qw 2794 (-2794))=true from by decide+kernel,show ur 9541 (-9541) 9541 97200000 16200000=true from by decide+kernel,JM,
  show Zc 9541 (-9541) 9541 97200000 16200000 0 0 (-9541)=false from by decide+kernel,show Zc 9541 (-9541) 9541 97200000 16200000 7493 2794 (-2794)=false from by decide+kernel]
 rw[if_neg DQ,if_pos rfl,if_neg DQ,if_neg DQ,if_neg DQ]
theorem Dx:bK true 2794 (-2794) 9541 0 9541 (-9541) 9541 113400000 16200000 7493=0:=by
 unfold bK
 rw[show(qw 2794 (-2794)&&qw 9541 0)=true from by decide+kernel,show ur 9541 (-9541) 9541 113400000 16200000=true from by decide+kernel,Ua,
  show Zc 9541 (-9541) 9541 113400000 16200000 0 2794 (-2794)=false from by decide+kernel,show Zc 9541 (-9541) 9541 113400000 16200000 7493 9541 0=false from by decide+kernel]
 rw[if_neg DQ,if_pos rfl,if_neg DQ,if_neg DQ,if_neg DQ]
theorem VD:uV uI 55904=0:=by
 unfold uV uI;rw[if_neg DQ];rw[uo,if_neg (fun h=>h Dt),if_neg DQ,if_neg DQ];rw[uo,if_neg (fun h=>h Dv),if_neg DQ,if_neg DQ];rw[uo,if_neg (fun h=>h Dx),if_neg DQ,if_neg DQ];rw[uo,if_neg (fun h=>h Du),if_neg DQ,if_neg DQ];rw[VU,if_pos DQ]
theorem cz:mr uI 55904 1=(27952,0):=by
 unfold mr;rw[if_neg (by rw[VD];decide)];rfl
theorem We:Wz uI 55904 10000=(0,-20000,0,0):=by
 unfold Wz;rw[if_neg (by rw[VD];decide),if_neg DQ]
 show MB ⟨false,0,-30000,0,-9541,0,0,0,0,0,20459,1,false⟩ 10000=_
 unfold MB;rw[if_neg DQ];dsimp only;rw[Wd];decide+kernel
def Bg:En:=⟨false,1,⟨#[65,47,48,48]⟩,⟨#[]⟩,0,false,0,0,0,0,-200000,6000000,0,0,0,-30000,0,0,2,⟨#[]⟩⟩
def Zn:En:=⟨false,2,⟨#[66,47,48,48]⟩,⟨#[]⟩,0,false,0,0,0,0,-200000,6000000,0,0,0,0,0,0,2,⟨#[]⟩⟩
def JN:En:=⟨false,2,⟨#[67,47,48,48]⟩,⟨#[]⟩,0,false,0,0,0,0,-200000,6000000,0,0,30000,0,0,0,2,⟨#[]⟩⟩
def Km:List En:=[Bg,Zn,JN]
def ZQ:Tk:=⟨1,0,-30000,0,-30000,0,0,0,0,0,0,0,0,0,false⟩
def Qg:Tk:=⟨1,0,-30000,0,0,0,0,0,0,0,0,0,30000,1,false⟩
def Qh:Tk:=⟨1,0,0,30000,0,0,0,0,0,0,32400000,32400000,30000,2,false⟩
theorem Wf:jR ⟨#[]⟩ ⟨#[]⟩ Km (-1)=0:=by decide+kernel
theorem NT:zx none 0 0 0 0 Bg Zn 251 3000 0 30000=({ZQ with n:=0},0):=by
 have h:zx none 0 0 0 0 Bg Zn 251 3000 0 30000=(zf 0 (-30000) 0 (-30000) 0,0):=DN;rw[h];unfold zf;rw[if_pos DQ];rfl
theorem NU:zx (some Bg) 0 (-30000) 0 0 Zn JN 251 3000 0 30000=({Qg with n:=0},0):=by
 have h:zx (some Bg) 0 (-30000) 0 0 Zn JN 251 3000 0 30000=(zf 0 (-30000) 0 0 0,0):=DN;rw[h];unfold zf;rw[if_neg DQ,mF,mA];rfl
theorem NV:zx (some Zn) 0 0 0 0 JN Qk 251 3000 0 30000=({Qh with n:=0},0):=by
 have h:zx (some Zn) 0 0 0 0 JN Qk 251 3000 0 30000=(zf 0 0 30000 0 0,0):=DN;rw[h];unfold zf;rw[if_neg DQ,mG,mC];rfl
set_option maxRecDepth 10000 in
theorem cC:zr ⟨#[]⟩ ⟨#[]⟩ Km (-1) 0 0 0 251 3000 0 30000=([ZQ,Qg,Qh],0,0):=by
 unfold zr;have hb:zM (-1)=0:=DQ;rw[if_neg (by rw[Wf];simp),if_neg DQ,if_neg (by decide+kernel),if_neg DQ,hb,List.drop_zero]
 have s0:zS 251 3000 0 30000 none 0 0 0 0 0 Km=vZ [ZQ] (zS 251 3000 0 30000 (some Bg) 1 0 (-30000) 0 0 [Zn,JN]):=by
  have h:=yZ (i:=0) (x:=Bg) (r:=[Zn,JN]) (T:={ZQ with n:=0}) rfl NT;exact h
 have s1:zS 251 3000 0 30000 (some Bg) 1 0 (-30000) 0 0 [Zn,JN]=vZ [Qg] (zS 251 3000 0 30000 (some Zn) 2 0 0 0 0 [JN]):=by
  have h:=yZ (i:=1) (x:=Zn) (r:=[JN]) (T:={Qg with n:=0}) rfl NU;exact h
 have s2:zS 251 3000 0 30000 (some Zn) 2 0 0 0 0 [JN]=vZ [Qh] ([],0,0):=by
  have h:=yZ (i:=2) (x:=JN) (r:=[]) (T:={Qh with n:=0}) rfl NV;exact h
 rw[s0,s1,s2];rfl
theorem Yj{d:Dw}{qx qy n D:Int}(h:¬(d.px=qx∧d.py=qy))(hD:qY d.px d.py qx qy=D):jf d qx qy n=⟨d.els++[⟨false,d.px,d.py,qx,qy,0,0,0,0,0,D,n,d.gp⟩],qx,qy,false⟩:=by
 unfold jf xO;rw[if_neg h,hD]
theorem VE{d:Dw}{cx cy r f s qx qy n N:Int}(hN:qX cx cy r f s=N)(h:1≤N):vq d cx cy r f s qx qy n=⟨d.els++[⟨true,d.px,d.py,qx,qy,cx,cy,r,f,s,N,n,d.gp⟩],qx,qy,false⟩:=by
 unfold vq xO;rw[hN,if_pos h]
theorem Wg:jm 9541 32400000=9541:=by
 have h:=cw;unfold jm;rw[show(((32400000:Int).natAbs:Nat):Int)/2=16200000 from by decide];unfold qR at h;split at h
 ·exact absurd (congrArg Prod.fst h) DQ
 ·split at h
  ·exact congrArg Prod.fst h
  ·exact absurd (congrArg Prod.fst h) DQ
theorem PY:bU 9541 32400000 15000=some 9541:=by
 unfold bU;rw[if_neg DQ,Wg,if_neg DQ]
theorem sZ{rad r:Int}{d:Dw}{x y:Tk}{c1 c2:Int×Int}{F:List Int}(h1:qN x.ax x.ay x.bx x.b_y=c1)(h2:qN y.ax y.ay y.bx y.b_y=c2)(h3:bU rad (zJ c1.1 c2.1) (Kn x y)=some r)
 (h4:bg x.ax x.ay x.bx x.b_y y.bx y.b_y r=(F,0)) (h5:¬F.getD 9 0=0) (h6:F.getD 9 0≤Kn x y):nn rad d x y=ut d x.n y.n F:=by
 unfold nn;rw[h1,h2,h3];dsimp only;rw[h4,if_neg];rintro(h|h|h)
 ·exact h rfl
 ·exact h5 h
 ·exact absurd h (by show¬Kn x y<F.getD 9 0;omega)
theorem GG{d:Dw}{xn yn cx cy r f s ax ay bx b_y q mx my mc n1:Int}(h1:qX cx cy r f (s.tdiv 2)=n1)(h2:jp cx cy r f (s.tdiv 2) n1=(mx,my,mc,0)):
 ut d xn yn [cx,cy,r,f,s,ax,ay,bx,b_y,q]=some (vq (vq (jf d ax ay xn) cx cy r f (s.tdiv 2) mx my xn) cx cy r (norm (f+s.tdiv 2)) (s-s.tdiv 2) bx b_y yn):=by
 unfold ut;dsimp only;rw[h1,h2,if_neg DS]
theorem aa:Kn Qg Qh=15000:=DQ
theorem NW:nn 9541 ⟨[],0,-30000,false⟩ Qg Qh=some ⟨uI.take 3,9541,0,false⟩:=by
 rw[sZ (rad:=9541) (d:=⟨[],0,-30000,false⟩) (x:=Qg) (y:=Qh) (r:=9541) (c1:=(0,0)) (c2:=(32400000,0)) mF mG (by rw[aa,show zJ ((0:Int),(0:Int)).1 ((32400000:Int),(0:Int)).1=32400000 from by decide+kernel];exact PY) sV (by decide+kernel) (by rw[aa];decide)];rw[GG (n1:=7493) (mx:=2794) (my:= -2794) (mc:=16200000) JM sY];rw[show Int.tdiv 32400000 2=16200000 from by decide,show norm (97200000+16200000)=113400000 from by decide,show(32400000:Int)-16200000=16200000 from by decide];rw[Yj (D:=20459) DQ mD,VE (N:=7493) JM DQ,VE (N:=7493) Ua DQ];rfl
theorem NZ:vU Km Qg=Zn:=rfl
theorem ae:vh Km 0 0 (uD 251 3000) (zr ⟨#[]⟩ ⟨#[]⟩ Km (-1) 0 0 0 251 3000 0 30000)=(uI,0,0):=by
 have q0:uG Km true ⟨[],0,0,false⟩ ZQ=⟨[],0,-30000,false⟩:=by
  unfold uG;rw[if_pos (.inr ⟨rfl,rfl⟩)];rfl
 have q1:∀d:Dw,uG Km false d Qg=d:=fun d=>by
  unfold uG;rw[if_neg (fun h=>h.elim (fun h=>by cases h) (fun h=>by cases h.1))]
 have q2:∀d:Dw,uG Km false d Qh=d:=fun d=>by
  unfold uG;rw[if_neg (fun h=>h.elim (fun h=>by cases h) (fun h=>by cases h.1))]
 have p0:kA Km true false ⟨[],0,0,false⟩ ZQ=⟨[],0,-30000,false⟩:=by
  rw[uZ,if_neg DS,q0];unfold jf;rw[if_pos DQ]
 have l0:jf ⟨[],0,-30000,false⟩ ZQ.bx ZQ.b_y ZQ.n=⟨[],0,-30000,false⟩:=by
  unfold jf;rw[if_pos DQ]
 have p1:kA Km false false ⟨[],0,-30000,false⟩ Qg=⟨[],0,-30000,false⟩:=by
  rw[uZ,if_neg DS,q1];unfold jf;rw[if_pos DQ]
 have p2:kA Km false true ⟨uI.take 3,9541,0,false⟩ Qh=⟨uI.take 3,9541,0,false⟩:=by
  rw[uZ,if_pos rfl,q2]
 have l2:jf ⟨uI.take 3,9541,0,false⟩ Qh.bx Qh.b_y Qh.n=⟨uI,30000,0,false⟩:=by
  rw[Yj (D:=20459) DQ mE];rfl
 have t0:QU 9541 (kA Km true false ⟨[],0,0,false⟩ ZQ) (vU Km ZQ) (vU Km Qg) ZQ Qg=none:=by
  unfold QU;rw[if_pos DQ]
 have t1:QU 9541 (kA Km false false ⟨[],0,-30000,false⟩ Qg) (vU Km Qg) (vU Km Qh) Qg Qh=some (⟨uI.take 3,9541,0,false⟩,Qh):=by
  rw[p1,NZ];unfold QU;rw[if_neg DQ,if_neg DQ,if_neg DQ,NW];rfl
 have g0:vz Km 9541 true false ⟨[],0,0,false⟩ [ZQ,Qg,Qh]=(⟨uI,30000,0,false⟩,0,0):=by
  rw[bP DQ DQ (.inr t0),p0,l0,YB DQ DQ rfl t1,Qv DQ DQ,p2,l2];rfl
 rw[cC,sU];unfold vh;rw[if_neg DS,if_neg DS];dsimp only;have g1:jU Km 9541 true false ⟨[],0,0,false⟩ ZQ [Qg,Qh]=(⟨uI,30000,0,false⟩,0,0):=g0;rw[g1,if_neg DS,if_neg DQ]
theorem PZ:kX uI=55904:=DQ
end Go.Proofs.YtcgpbnlhnafhjaaGreatDoor
