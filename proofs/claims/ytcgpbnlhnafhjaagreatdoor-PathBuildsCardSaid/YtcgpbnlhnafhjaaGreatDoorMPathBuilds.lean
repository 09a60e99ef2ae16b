/-
  The walk of the law: a path is the one of the reference.
-/
import Derived.Test.YtcgpbnlhnafhjaaGreatDoorMNode
import Derived.Test.YtcgpbnlhnafhjaaGreatDoorMDrBr
import Derived.Test.YtcgpbnlhnafhjaaGreatDoorCards
import Derived.Test.YtcgpbnlhnafhjaaGreatDoorTie
set_option maxRecDepth 100000
set_option maxHeartbeats 16000000
namespace Go.Proofs.YtcgpbnlhnafhjaaGreatDoor
open Go.RowKit
set_option linter.unusedVariables false
set_option linter.unusedSimpArgs false
theorem GD{w W0 W':World}{L B:List zw}(h:qU w W0 L)(k:qU W0 W' B):qU w W' (L++B):=by
 have h1:=qz h k.below;refine⟨h1.below,fun g cs t hm=> ?_,?_⟩
 ·rcases List.mem_append.1 hm with hm|hm
  ·exact h1.rows g cs t hm
  ·have:=k.rows g cs t hm;exact⟨Nat.le_trans h.below.size this.1,this.2⟩
 ·rw[List.map_append,List.nodup_append];refine⟨h.nodup,k.nodup,fun a ha b hb he=> ?_⟩;obtain⟨⟨x1,x2,x3⟩,hx,e1⟩:=List.mem_map.1 ha;obtain⟨⟨y1,y2,y3⟩,hy,e2⟩:=List.mem_map.1 hb;have q1:=h.lt hx;have q2:=(k.rows y1 y2 y3 hy).1;simp only at e1 e2;omega
section
variable{l:List Oper}{Q:Exit→Act→World→Prop}{a:Act}{w W:World}{L K:List zw}{o:Oper}{fuel:Nat}{listed:Array Bool}
theorem Pc(i:Nat){C:List Value}{g off:Nat}{ty:TypeId}{x:Operand}(hM:qU w W L)(hC:∀(j:Nat) (v:Value),C[j]? =some v→w.cell? ⟨g,off+j,none⟩=some v)
 (h:wpAnyH Tryz.prog .any l.toArray Q (Held w K) fuel (listed.setIfInBounds i true) (a.put o.dst (.agg C.toArray)) W) (hk:Ks K L:=by((repeat constructor)<;>fail)) (hn:tG l i o:=by exact zF rfl)
 (hs:Region.noSelect l.toArray=true:=by kernel_rfl) (hf:Region.free .any l.toArray listed i=true:=by kernel_rfl) (hr:(Region.ready .any l.toArray listed).contains i=true:=by kernel_rfl) (hgd:o.guard=none:=by rfl)
 (ho:o.op= .load ty x:=by rfl) (hx:a.eval x= .pointer (some ⟨g,off,none⟩):=by rfl) (hg:xJ.contains ty=true:=by rfl) (hz:List.lookup ty (ZN++mo)=some C.length:=by rfl)
 (hQ:∀c a w v,Q (.panic c) (a.put o.dst v) w→Q (.panic c) a w:=by exact fun _ _ _ _ h=>h):wpAnyH Tryz.prog .any l.toArray Q (Held w K) (fuel+1) listed a W:=
  wpAnyH_take hn.get hs hf hr (fun c a w=>hQ c a w _) (.inl ⟨by simp[Region.wanted,hgd],fun W1 hS=>by
   unfold execOp
   simp only[ho,hx,Instr.loadAt,Instr.sureAddr,Sem.run_bind,Sem.run_pure,Result.andThen_ok,jz ty g off C.length C (JK hg) (kw W1 (uT hz)) rfl (fun j v hj=>hS.old (hC j v hj))]⟩) (qW hM hk.mem) h
end
def sS(w:World)(S:Option Addr)(es:List El):Prop:=∀(k:Nat) (x:El),es[k]? =some x→∃g,S=some ⟨g,0,none⟩∧∀(j:Nat) (v:Value),[.bool x.c,Iv x.ax,Iv x.ay,Iv x.bx,Iv x.b_y,Iv x.cx,Iv x.cy,Iv x.r,Iv x.f,Iv x.s,Iv x.L,Iv x.n,.bool x.g][j]? =some v→w.cell? ⟨g,k*13+j,none⟩=some v
theorem GF{w W:World}{L B:List zw}{SV:Option Addr}{n capV:Nat}{els:List El}{m:Nat}(hM:qU w W L)(hO:bG (.slice SV n capV) els B m)(hB:∀b∈B,b∈L):sS W SV els:=by
 intro k x hk;obtain⟨g,cap,cur,e,rfl,hcur⟩:=gQ hO (by have:=(List.getElem?_eq_some_iff.1 hk).1;omega);injection e with e1 e2 e3;subst e1;refine⟨g,rfl,fun i v hv=> ?_⟩;have hr:=VA hcur rfl hk;have hg:=hM.rows g cur _ (hB _ (.head _));rw[cell_of_row W g _ cur.toArray _ (0,0) hg.2];have hi:i<13:=(List.getElem?_eq_some_iff.1 hv).1;change x.cells[i]? =some v at hv;rw[←hr,List.getElem?_take,if_pos hi,List.getElem?_drop]at hv;simpa using hv
theorem PW(S1 S2:Option Addr)(c1 c2 ne:Nat)(len:Int)(es:List El)(HNE:Hid (es.length=ne))(h5:ne≤1000)(w:World)(h1:Hid (sS w S1 es))(h2:Hid (sS w S2 es)):
 Calls Tryz.prog 7 #[.agg #[.slice S1 ne c1,Iv len],.agg #[.slice S2 ne c2,Iv len]] w fun e w'=>e= .returned (.bool true)∧Below w.heap.size w w':=by
 have hM:=qE w;go_enter Tryz.func7,Tryz.ntmps7;go_upto_region 0 with fail;refine qu ?_;go_cut [3,2] (fun s3 s2 wx=>∃gq gp:Nat,s3= .pointer (some ⟨gq,0,none⟩)∧s2= .pointer (some ⟨gp,0,none⟩)∧qU w wx [(gq,[.slice S2 ne c2,Iv len],34),(gp,[.slice S1 ne c1,Iv len],34)])
 case first=>
  go_wp2_with(first|(refine DU ?_;clear hM;intro g W hM))
  all_goals
   go_meet;exact⟨_,_,rfl,rfl,hM⟩
 case rest=>
 clear hM;obtain⟨gq,gp,rfl,rfl,hM⟩:=hcut;go_wp2_with(first|refine qg ?_);go_loopw [23] (fun s23 wx=>∃k:Nat,k≤es.length∧s23=Iv k∧qU w wx [(gq,[.slice S2 ne c2,Iv len],34),(gp,[.slice S1 ne c1,Iv len],34)]) (fun i _=>es.length-(intOf i).toNat)
 case atStart=>exact⟨0,Nat.zero_le _,rfl,hM⟩
 case round=>
  clear hM;obtain⟨k,hk,rfl,hM⟩:=hrel;by_cases hlt:k<ne
  ·obtain⟨x,hx⟩:∃x,es[k]? =some x:=⟨_,List.getElem?_eq_getElem (by have:=HNE.out;omega)⟩;obtain⟨g1,rfl,hA⟩:=h1.out k x hx;obtain⟨g2,rfl,hB⟩:=h2.out k x hx;have HA:=hide hA;have HB:=hide hB;have kb:(k:Int)≤1000:=DL;clear hx hA hB;go_upto_region 6 with(first|refine qg ?_);refine qu ?_;refine qP [(gq,[.slice (some ⟨g2,0,none⟩) ne c2,Iv len],34),(gp,[.slice (some ⟨g1,0,none⟩) ne c1,Iv len],34)] hM DN ?_;(clear hM;intro W hM);refine rD 0 ?_;refine rD 1 ?_;refine rD 2 ?_;refine dP 3 (v:= .pointer (some ⟨g1,k*13,none⟩)) hM ?_ (hv:=by(intro W0;go_simp;(try(intro h;exact absurd h DL))));refine qu ?_;refine Pc 4 hM (HA.out) ?_;refine qu ?_;refine rD 5 ?_;refine rD 6 ?_;refine rD 7 ?_;refine dP 8 (v:= .pointer (some ⟨g2,k*13,none⟩)) hM ?_ (hv:=by(intro W0;go_simp;(try(intro h;exact absurd h DL))));refine qu ?_;refine Pc 9 hM (HB.out) ?_;refine qu ?_;refine dP 10 (v:= .bool false) hM ?_ (hv:=by(intro W0;go_simp));refine qu ?_;refine qF DN ?_;go_wp2_with fail
   all_goals
    go_roundw
    case rel=>exact⟨k+1,by have:=HNE.out;omega,by go_num,hM⟩
    case measure=>simp[intOf];have:=HNE.out;omega
  ·go_wp2_with(first|refine qg ?_)
   all_goals
    go_ret;exact⟨rfl,hM.below⟩
theorem Yy{W:World}(pa pb:ByteArray)(S:Option Addr)(l:List En)(cap:Nat)(act:Int)(s0 s1 s2 s3 s4 s5 s6 s7:Int)(ha:pa.size≤maxLen)(hb:pb.size≤maxLen)(hact:qK act)(hp:Hid (tL W S l))(hxs:Hid (∀(k:Nat) (x:En),l[k]? =some x→Tq x))(hs0:qK s0)(hs1:qK s1)(hs2:qK s2)(hs3:qK s3)(hs4:qK s4)(hs5:qK s5)(hs6:qK s6)(hs7:qK s7)(hL:laidMetH Tryz.prog KQ W)(w:World)(hw:w=W:=by rfl):
 Calls Tryz.prog 3 #[.agg #[.string pa,.string pb,.slice S l.length cap,Iv act],.agg #[Iv s0,Iv s1,Iv s2,Iv s3,Iv s4,Iv s5,Iv s6,Iv s7]] w fun e w'=>e= .returned (.bool true)∧Below w.heap.size w w':=by
 subst hw;have hu:=hide (lK hL);clear hL;have BA:=fun W h1 h2=>KE pa pb S l cap act s0 s1 s2 s4 s5 s6 s7 W ha hb h1 hxs hs2 hs6 h2
 obtain⟨Q,hQ⟩:∃Q,vh l s0 s1 (uD s4 s5) (zr pa pb l act s0 s1 s2 s4 s5 s6 s7)=Q:=⟨_,rfl⟩;have RB:=fun W h1=>wF pa pb S l cap act s0 s1 s2 s4 s5 s6 s7 W ha hb h1 hxs hs2 hs6
 rw[hQ]at BA RB;have HQ:=hide hQ;obtain⟨els,idx,er⟩:=Q
 have HL5:els.length≤500:=by
  have h:=dU (l:=l) (fx:=s0) (fy:=s1) (R:=uD s4 s5) (T:=zr pa pb l act s0 s1 s2 s4 s5 s6 s7);rw[hQ]at h;exact h
 clear hQ HQ;have hM:=qE w;go_enter Tryz.func3,Tryz.ntmps3;go_upto_region 0 with fail;go_cut [2,3] (fun t2 t3 wx=>∃gP gS,t2= .pointer (some ⟨gP,0,none⟩)∧t3= .pointer (some ⟨gS,0,none⟩)∧qU w wx [(gS,[Iv s0,Iv s1,Iv s2,Iv s3,Iv s4,Iv s5,Iv s6,Iv s7],30),(gP,[.string pa,.string pb,.slice S l.length cap,Iv act],24)])
 case first=>
  go_wp2_with(first|(refine DU ?_;clear hM;intro g W hM))
  all_goals
   go_meet;exact⟨_,_,rfl,rfl,hM⟩
 case rest=>
 clear hM;obtain⟨gP,gS,rfl,rfl,hM⟩:=hcut;go_wp2_with(first|(refine DU ?_;clear hM;intro g W hM)|(refine qf (Gz _ (hide (qV hM hu.out))) ?_;clear hM;intro W1 hM)|(go_at_call 5;(with_reducible refine(BA _ (hide (jw hM hp.out)) (hide (qV hM hu.out))).mono ?_);rintro e W1 ⟨V,len,B,rfl,hO,hlen,hB⟩;replace hM:=GD hM hB;clear hB;simp only[List.cons_append,List.nil_append]at hM;obtain⟨SV,capV,hVV⟩:=uu hO.1;subst hVV;have HO:=hide hO;clear hO;have HLEN:=hide hlen;clear hlen)|(go_at_call 6;(with_reducible refine(RB _ (hide (jw hM hp.out))).mono ?_);rintro e W1 ⟨V2,len2,B2,rfl,hO2,hlen2,hB2⟩;replace hM:=GD hM hB2;clear hB2;have HLEN2:=hide (hlen2.trans HLEN.out.symm);clear hlen2;simp only[List.cons_append,List.nil_append]at hM;obtain⟨SV2,capV2,hVV⟩:=uu hO2.1;subst hVV;have HO2:=hide hO2;clear hO2;have e2:=HLEN2.out;subst e2;clear HLEN2)|(go_at_call 7;(refine(PW _ _ _ _ _ _ els (hide rfl) DL _ (hide (GF hM HO.out (fun b hb=> .tail _ (.tail _ (.tail _ (.tail _ (List.mem_append_left _ hb))))))) (hide (GF hM HO2.out (fun b hb=> .tail _ (.tail _ (.tail _ (.tail _ (List.mem_append_right _ hb)))))))).mono ?_);rintro e W1 ⟨rfl,hb⟩;replace hM:=qz hM hb;clear hb))
 all_goals
  go_ret;exact⟨jh (by first|rfl|(simp;done)),hM.below⟩
end Go.Proofs.YtcgpbnlhnafhjaaGreatDoor
/-
  PathBuilds: the row's step: the given statement 'PathBuildsSaid' out of the walk.
-/
namespace Go.Proofs.YtcgpbnlhnafhjaaGreatDoor.pathBuilds
open Go.ChangeShapes Go.WideShapes Go.ChangeAt Go.RowKit
theorem own:ownKnob Tryz.prog.godebug=none:=DN
theorem laidOut:laidOutB Tryz.prog=true:=nW
theorem typed:(Tryz.f3.params.toList.all fun t=>Tryz.prog.readableRec t&&decide (t<Tryz.prog.types.size))=true:=DN
theorem PX:∀t∈Tryz.f3.params.toList,Tryz.prog.readableRec t=true∧t<Tryz.prog.types.size:=by
 intro t ht;have h:=List.all_eq_true.1 typed t ht;simpa using h
theorem MV:Tryz.prog.cellTypes Tryz.prog.depth 24=some [9,9,22,3]:=DN
theorem MW:Tryz.prog.cellsOf 24=([9,9,22,3]:List TypeId).length:=DN
theorem MZ:Tryz.prog.cellTypes Tryz.prog.depth 30=some (List.replicate 8 2):=DN
theorem Da:Tryz.prog.cellsOf 30=(List.replicate 8 2).length:=DN
theorem lifted(os:Os)(started:os.Started)(H:Type)(enc:TypeId×Value→H):
 ReturnsInHanded {} Tryz.checked os 3 .any (fun w args=>(Rows.pathBuildsSpec.pre enc Tryz.prog Tryz.f3 Rows.pathBuildsRow.domain false w args∧laidMetH Tryz.prog KQ w)∧sizedMet enc Tryz.prog Tryz.f3 (OpenSpec.ofChange Rows.pathBuildsSpec) false w args) (Rows.pathBuildsSpec.post enc Tryz.prog Tryz.f3 false true false false):=by
 refine returnsInHanded_of_change_and (C:=Tryz.checked) (X:=fun w _=>laidMetH Tryz.prog KQ w) (fun _ _ _ hh h=>h.of_heap hh) own started DN Tryz.func3
  (ChangeSpec.witness_shaped (enc:=enc) (C:=Tryz.checked) (os:=os) (X:=fun w _=>laidMetH Tryz.prog KQ w) false (World.doorLaid Tryz.prog 400 os) #[.agg #[.string ⟨#[]⟩,.string ⟨#[]⟩,.slice none 0 0,Iv 0],.agg #[Iv 0,Iv 0,Iv 0,Iv 0,Iv 0,Iv 0,Iv 0,Iv 0]] 8 rfl (World.shaped_of_RefB DN DN) DN DN DN (rS os _)) ?_
 intro W base args ds gs before hval0 hW hcnd _ hL _;have hval:∀(j:Nat) t v,Tryz.f3.params[j]? =some t→args[j]? =some v→Value.okWide Tryz.prog W .any base t v:=hval0;have hW':=hW;obtain⟨p,q,hA0,hV,rfl,hfz,hnd⟩:=hW;have hlen:=trodAll_length _ _ _ _ hA0;rw[Tryz.params3]at hval hlen;obtain⟨v0,v1,rfl⟩:=ML hlen.1;obtain⟨d0,d1,rfl⟩:=WW hlen.2;obtain⟨lp,rfl,ep,hlp⟩:=rA (Or.inl ⟨_,Tryz.underlying24⟩) MV MW (hval 0 24 v0 rfl rfl);obtain⟨pc0,pc1,pc2,pc3,rfl⟩:=NE (ep.trans (by rfl));have hA':=hA0;rw[Tryz.params3]at hA';obtain⟨_,_,hTp,_⟩:=hA';obtain⟨pA,pB,pS,pl,pcap,pact,hpv,hpA,hpB,hpn,hpact,hpp,hpx⟩:=Wo hTp ⟨pc0,pc1,pc2,pc3,rfl⟩;obtain⟨rfl,rfl,rfl,rfl⟩:pc0= .string pA∧pc1= .string pB∧pc2= .slice pS pl.length pcap∧pc3=Iv pact:=by simpa using hpv
 obtain⟨ls,rfl,es,hls⟩:=lv (Or.inl ⟨_,Tryz.underlying30⟩) MZ Da (fun u hu=>by rw[List.eq_of_mem_replicate hu];exact Tryz.underlying2) (hval 1 30 v1 rfl rfl);obtain⟨s0,s1,s2,s3,s4,s5,s6,s7,rfl⟩:=NF (es.trans DS);have hs0:qK s0:=hls _ DS;have hs1:qK s1:=hls _ DS;have hs2:qK s2:=hls _ DS;have hs3:qK s3:=hls _ DS;have hs4:qK s4:=hls _ DS;have hs5:qK s5:=hls _ DS;have hs6:qK s6:=hls _ DS;have hs7:qK s7:=hls _ DS;refine(Yy pA pB pS pl pcap pact s0 s1 s2 s3 s4 s5 s6 s7 hpA hpB hpact (hide hpp) (hide hpx) hs0 hs1 hs2 hs3 hs4 hs5 hs6 hs7 hL W).mono fun e W' ⟨he,hb⟩=> ?_
 subst he;exact⟨_,rfl,ry (f:=Tryz.f3) (s:=Rows.pathBuildsSpec) (tb:=4) laidOut PX rfl DN Tryz.underlying4 hW' ⟨rfl,rfl,rfl⟩ hb⟩
theorem k0:(Rows.pathBuildsRow.wf (OpenSpec.ofChange Rows.pathBuildsSpec))=true:=DN
theorem k3:(Tryz.f3.params.all (Tryz.prog.readableRec ·))=true:=DN
theorem k4:(namedTie Tryz.prog Rows.pathBuildsRow.named Rows.pathBuildsSpec.vars)=true:=DN
theorem k5:(Rows.pathBuildsRow.stops==[])=true:=DN
theorem k7:(Rows.pathBuildsRow.knobs==[])=true:=DN
theorem k9:(Rows.pathBuildsRow.inPlace==Tryz.prog.inPlace 3)=true:=DN
theorem k10:(Rows.pathBuildsRow.unfollowed==Tryz.prog.unfollowed 3)=true:=DN
theorem k11:(Rows.pathBuildsRow.recurses==Tryz.prog.recurses 3)=true:=DN
theorem k12:(Rows.pathBuildsRow.named==Tryz.prog.varsNamed 3)=true:=DN
theorem k13:(Rows.pathBuildsRow.maps==(Tryz.f3.params.toList++Rows.pathBuildsSpec.plain.varTypes Tryz.prog).any (Tryz.prog.mapsRec ·))=true:=DN
theorem k14:(Rows.pathBuildsRow.ifaces==(Tryz.f3.params.toList++Rows.pathBuildsSpec.plain.varTypes Tryz.prog).any (Tryz.prog.ifacesRec ·))=true:=DN
theorem k15:(Rows.pathBuildsRow.mapsOut==Tryz.prog.mapsAmong Tryz.f3.resultTypes.toList)=true:=DN
theorem k16:(Rows.pathBuildsRow.loops==(Tryz.f3.params.toList++Rows.pathBuildsSpec.plain.varTypes Tryz.prog).any (Tryz.prog.loopsFrom ·))=true:=DN
theorem k17:(Rows.pathBuildsRow.wideKeys==(Tryz.f3.params.toList++Rows.pathBuildsSpec.plain.varTypes Tryz.prog++Tryz.f3.resultTypes.toList).any (Tryz.prog.wideKeysFrom ·))=true:=DN
theorem k18:(Rows.pathBuildsSpec.vars.all (Tryz.prog.varReadable ·))=true:=DN
theorem k19:(Tryz.f3.resultTypes.all (fun t=>Tryz.prog.readableRec t&&decide (t<Tryz.prog.types.size)))=true:=DN
theorem k20:(Rows.pathBuildsRow.ifacesOut==Tryz.f3.resultTypes.toList.any (Tryz.prog.ifacesRec ·))=true:=DN
theorem k21:(Rows.pathBuildsRow.loopsOut==Tryz.f3.resultTypes.toList.any (Tryz.prog.loopsFrom ·))=true:=DN
theorem k22:(Rows.pathBuildsRow.plainKeys==Tryz.prog.plainKeys)=true:=DN
theorem k23:(Rows.pathBuildsRow.shortTexts.isNone)=true:=DN
theorem k26:(Rows.pathBuildsRow.lifted==Tryz.prog.liftsFinal)=true:=by rw[rL];rfl
theorem k27:(Tryz.prog.make==some Rows.pathBuildsRow.make)=true:=by rw[lF];rfl
theorem k28:(Rows.pathBuildsRow.kinds==(if Rows.pathBuildsRow.domain.isEmpty then[]else Tryz.f3.params.toList.map fun t=>match Tryz.prog.underlying t with|some (.int k)=>some k|_=>none))=true:=DN
theorem Dp:(Rows.pathBuildsRow.pinned==Rows.pathBuildsRow.pinnedBy)=true:=DN
theorem Dq:(Rows.pathBuildsRow.veiled==(Tryz.f3.params.toList++Rows.pathBuildsSpec.plain.varTypes Tryz.prog++Tryz.f3.resultTypes.toList).any (Tryz.prog.veiledRec ·))=true:=DN
theorem Dr:(Rows.pathBuildsRow.veiledFits Tryz.prog Tryz.f3.params.toList (Tryz.f3.params.toList++Rows.pathBuildsSpec.plain.varTypes Tryz.prog++Tryz.f3.resultTypes.toList))=true:=DN
theorem closed:joinedFacts Tryz.prog 3 Tryz.f3 Rows.pathBuildsSpec Rows.pathBuildsRow=true:=(kZ (kZ (kZ (kZ (kZ (kZ (kZ (kZ (kZ (kZ (kZ (kZ (kZ (kZ (kZ (kZ (kZ (kZ (kZ (kZ (kZ (kZ (kZ (kZ (kZ (kZ (kZ (kZ (kZ (kZ (kZ k0 nW) lz) k3) k4) k5) rB) k7) rC) k9) k10) k11) k12) k13) k14) k15) k16) k17) k18) k19) k20) k21) k22) k23) rF) rJ) k26) k27) k28) Dp) Dq) Dr)
theorem byName:Tryz.prog.funcNamed Rows.pathBuildsRow.func=some 3:=DN
theorem inst:Tryz.f3.isInstance Tryz.prog Rows.pathBuildsRow.origin Rows.pathBuildsRow.targs:=of_decide_eq_true DN
theorem over:Rows.pathBuildsRow.holds Tryz.pinned (OpenSpec.ofChange Rows.pathBuildsSpec):=
 OpenClaim.holds_of_wide 3 Tryz.f3 rfl rfl rfl rfl rfl rfl rfl ⟨rfl,rfl,rfl,rfl,rfl⟩ rfl rfl rfl rfl rfl byName Tryz.func3 closed
  inst (by unfold Func.isWrapper;rw[if_neg (of_decide_eq_false DN)];exact⟨rfl,rfl⟩)
  (fun os started H enc _=>lifted os started H enc)
theorem proved:Rows.PathBuildsCardSaid:=
 Claim7.holds_tied_plain_at .later [] [.data] true Rows.pathBuildsCard.stood.harness false
  over (fun _ h=>by cases h) DN (fun _ h=>by cases h) pathBuilds_row_tie rfl ⟨rfl,rfl⟩ DN rfl
  (fun f fn hf hfn=>by
    obtain rfl:f=3:=Option.some.inj ((show Tryz.prog.funcNamed "flightdeck/flightdecklaw27.PathBuilds" =some 3 by kernel_rfl).symm.trans hf)|>.symm;obtain rfl:fn=Tryz.f3:=(Option.some.inj (Tryz.func3.symm.trans hfn)).symm
    exact⟨DN,fun j t ht=>by
     have hm:t∈Tryz.f3.params.toList:=by simpa using Array.mem_of_getElem? ht
     have hall:(Tryz.f3.params.toList.all fun u=> !Tryz.prog.wantsStandIn u)=true:=DN
     exact(show Tryz.prog.wantsStandIn t=false by simpa using List.all_eq_true.1 hall t hm)⟩)
  DN
end Go.Proofs.YtcgpbnlhnafhjaaGreatDoor.pathBuilds
