/- CastOrder: in every schedule the delivered sequences of all members are prefixes of one sequence, and each member has delivered the first Stable entries of its log. Conditions: none beyond the statement's own. -/
import Derived.Test.YtponbabbabnaeaaGreatQc01
import Derived.Test.YtponbabbabnaeaaGreatQc35
import Derived.Test.YtponbabbabnaeaaGreatQc37
set_option maxRecDepth 100000
namespace Go.Proofs.YtponbabbabnaeaaGreat.castOrder
open Go.RowKit
theorem qoP{m:WM}{k:Nat}{s:St}{t:TlM}(h:∃u,m.wd.told[k]?=some u∧s.stable=(u.length:Int)∧s.stable≤s.log.length∧s.log.take s.stable.toNat=u)(ht:m.told[k]?=some t):s.stable=(t.l.length:Int)∧t.l.length≤s.log.length∧s.log.take t.l.length=t.l:=by
 obtain⟨u,h1,h2,h3,h4⟩:=h
 have h5:m.wd.told[k]?=some t.l:=by simp only[WM.wd,List.getElem?_map,ht];rfl
 rw[h1] at h5
 cases h5
 refine⟨h2,by omega,?_⟩
 rw[h2] at h4
 simpa using h4
set_option maxHeartbeats 4000000 in
theorem walk0(n:Int)(A:Option Addr)(c:Nat)(xs:List Int)(D:Option Addr)(d:Nat)(l:List Mv)(w:World)(hr:Row w A (qam xs))(hcm:xs.length≤c∧c≤maxLen)(hx:xs.length≤9223372036854775807)(hl:Row w D (mvE.cells l))(hq:∀m∈l,m.kind<256∧m.a<256∧m.cut<256∧m.n<65536) :
  Calls Tryz.prog 7 #[.agg #[Jq n,.slice A xs.length c],.slice D l.length d] w fun e w'=>e=.returned (.bool true)∧Ext w w':=by
 have XX:Hid (Ext w (w.alloc (.cells #[Jq n,.slice A xs.length c] 46))):=hJ (Ext.new _ _)
 have W_x:=hJ (hr.ext XX.out);have W_l:=hJ (hl.ext XX.out);have HQ:=hJ hq
 have HOL:Hid (∀X,w.heap.size≤X→qtk X D (mvE.cells l)):=hJ (fun X hX=>qq4 hl hX)
 have B_v:Hid (BIs (w.alloc (.cells #[Jq n,.slice A xs.length c] 46)) w.heap.size #[Jq n,.slice A xs.length c] 46):=hJ (BIs.new _ _ _)
 clear hr hl hq;go_enter Tryz.func7,Tryz.ntmps7
 go_wp2_with fail
 generalize (w.alloc (.cells #[Jq n,.slice A xs.length c] 46))=u1 at *
 refine(qj4 _).mono ?_
 rintro e w1 ⟨rfl,hx1⟩
 replace B_v:=hJ (B_v.out.ext hx1);replace W_x:=hJ (W_x.out.ext hx1);replace W_l:=hJ (W_l.out.ext hx1);replace XX:=hJ (XX.out.trans hx1)
 clear hx1;have v0:w1.cell? (Pw w 0)=some (Jq n):=B_v.out.cell 0
 have v1:w1.cell? (Pw w 1)=some (.slice A xs.length c):=B_v.out.cell 1
 go_wp2_with fail
 refine(qfw n A c xs _ W_x.out hx).mono ?_
 rintro e w2 ⟨rfl,hx2⟩
 replace B_v:=hJ (B_v.out.ext hx2);replace W_x:=hJ (W_x.out.ext hx2);replace W_l:=hJ (W_l.out.ext hx2);replace XX:=hJ (XX.out.trans hx2)
 clear hx2 v0 v1;have v0:w2.cell? (Pw w 0)=some (Jq n):=B_v.out.cell 0
 have v1:w2.cell? (Pw w 1)=some (.slice A xs.length c):=B_v.out.cell 1
 by_cases hv:qap n xs=true
 rotate_left
 ·have hv':qap n xs=false:=by simpa using hv
  rw[hv']
  go_wp2;go_ret
  exact⟨rfl,XX.out⟩
 rw[hv]
 have HV:=hJ hv
 clear hv;by_cases h5:5<xs.length
 ·have h5':(5:Int)<(xs.length:Int):=by omega
  go_wp2;go_ret
  exact⟨rfl,XX.out⟩
 have h5':decide ((5:Int)<(xs.length:Int))=false:=by simp only[decide_eq_false_iff_not];omega
 have hx5:xs.length≤5:=by omega
 clear h5;by_cases h1:1000<n
 ·skip
  go_wp2;go_ret
  exact⟨rfl,XX.out⟩
 have h1':decide ((1000:Int)<n)=false:=by simp only[decide_eq_false_iff_not];omega
 clear h1;by_cases h2:200<l.length
 ·have h2':(200:Int)<(l.length:Int):=by omega
  go_wp2;go_ret
  exact⟨rfl,XX.out⟩
 have h2':decide ((200:Int)<(l.length:Int))=false:=by simp only[decide_eq_false_iff_not];omega
 have hl2:l.length≤200:=by omega
 clear h2;go_wp2_with fail
 refine(qnK n A c xs _ W_x.out hcm.1 hcm.2 (by omega)).mono ?_
 rintro e w4 ⟨m,col,p0,rfl,ws,wd,bl⟩
 obtain⟨HFI,H,S,HSY⟩:=qoF (W:=m.wd) HV.out hx5 hl2 wd
 replace HFI:=hJ HFI;replace HSY:=hJ HSY
 clear wd h5' h1' h2' v0 v1;have C4:=hJ ws;have BL:=hJ bl
 have X4:Hid (Ext w w4):=hJ (qoj XX.out bl)
 have WX4:Hid (Row w4 A (qam xs)):=hJ (W_x.out.ext bl);have WL4:Hid (Row w4 D (mvE.cells l)):=hJ (W_l.out.ext bl)
 have BV4:=hJ (qiS B_v.out bl B_v.out.lt)
 have HO:=hJ (HOL.out w2.heap.size XX.out.size)
 have HVB:=hJ B_v.out.lt;have HWS:=hJ XX.out.size
 clear ws bl XX W_x W_l B_v HOL BL;have C5:=hJ C4.out.rebox
 have XN:=hJ (Ext.new w4 (.cells m.cells 59))
 replace X4:=hJ (X4.out.trans XN.out);replace WL4:=hJ (WL4.out.ext XN.out);replace BV4:=hJ (BV4.out.ext XN.out)
 clear C4 XN WX4;unfold WM.cells at *
 go_wp2_with fail
 generalize (w4.alloc (.cells #[.slice m.Av m.vs.length m.cv,.slice m.Am m.mem.length m.cm,.slice m.Ad m.down.length m.cd,.slice m.At m.told.length m.ct,.slice m.As m.sent.length m.cs,.slice m.Af m.fly.length m.cf] 59))=w5 at *
 generalize qdg col w4.heap.size 1=col5 at *
 generalize w4.heap.size=p at *
 refine(qri m w2.heap.size col5 p D d l _ C5.out WL4.out HO.out (by omega) HQ.out HFI.out).mono ?_
 rintro e w6 ⟨m6,col6,rfl,ws6,wd6,bl6⟩
 rw[←wd6] at HSY
 have C:=hJ ws6;have XX:Hid (Ext w w6):=hJ (Below.trans X4.out (bl6.mono HWS.out))
 have B_v:=hJ (qiS BV4.out bl6 HVB.out)
 clear ws6 wd6 bl6 HWS X4 WL4 BV4 HO HVB C5 HFI HQ;obtain⟨Av,cv,vs,Am,cm,mem,Ad,cd,down,At,ct,told,As,cs,sent,Af,cf,fly⟩:=m6
 have FN:=hJ (HSY.out.fine (by omega))
 have f1:=FN.out.ml;have f2:=FN.out.dl;have f3:=FN.out.tl;have f4:=FN.out.sl;have f5:=FN.out.vl
 simp only[WM.wd,List.length_map,qaG] at f1 f2 f3 f4 f5
 have HTL:Hid (∀t∈told,t.l.length≤100000):=hJ (fun t ht=>FN.out.told t.l (List.mem_map_of_mem ht))
 obtain⟨gm,_,hAm,_⟩:=qg1 C.out.mem (i:=0) (by simp only;omega)
 simp only at hAm
 subst hAm
 obtain⟨gt,_,hAt,_,_⟩:=qlL C.out.told (i:=0) (by simp only;omega)
 simp only at hAt
 subst hAt
 have HPX:Hid (∀(i j:Nat) (t u:TlM),told[i]?=some t→told[j]?=some u→t.l.length≤u.l.length→t.l<+:u.l):=hJ (fun i j t u h1 h2 h3=>HSY.out.order (i:=i) (j:=j) (by simp only[WM.wd,List.getElem?_map,h1];rfl) (by simp only[WM.wd,List.getElem?_map,h2];rfl) h3)
 go_wp2_with fail
 refine(qjD ⟨Av,cv,vs,some (Pq gm 0),cm,mem,Ad,cd,down,some (Pq gt 0),ct,told,As,cs,sent,Af,cf,fly⟩ w2.heap.size col6 p _ C.out (by simp only;omega) HTL.out HPX.out).mono ?_
 rintro e w7 ⟨rfl,hx7⟩
 replace C:=hJ (C.out.ext hx7);replace XX:=hJ (XX.out.trans hx7)
 clear hx7 HPX B_v;have C7:=C;have X7:=XX
 clear C XX;go_wp2;go_loopw [6] (fun i wr=>∃k:Nat,k≤mem.length∧i=Jq k∧Hid (Ext w7 wr)) (fun i _=>mem.length - (intOf i).toNat)
 case atStart=>exact⟨0,Nat.zero_le _,rfl,hJ (Ext.refl _)⟩
 case round=>
  obtain⟨k,hk,rfl,XR⟩:=hrel
  have C:=hJ (C7.out.ext XR.out)
  have z1:=(qaz C.out).2.1
  simp only at z1
  by_cases hlt:k<mem.length
  rotate_left
  ·have hkk:k=mem.length:=by omega
   subst hkk
   go_wp2;go_ret
   exact⟨rfl,X7.out.trans XR.out⟩
  obtain⟨_,b,hA2,_,_,_,hb,k0,k1,k2,k3,k4,k5,k6,k7,k8⟩:=qg1 C.out.mem (i:=k) (by simp only;omega)
  simp only[Option.some.injEq,Addr.mk.injEq,and_true] at hA2 hb
  subst hA2
  have HB:=hJ hb
  clear hb;obtain⟨t,ht⟩:∃t,told[k]?=some t:=⟨_,List.getElem?_eq_getElem (by omega)⟩
  have HT:=hJ ht;have htl:=HTL.out t (List.mem_of_getElem? ht)
  clear ht;obtain⟨hst,hsl,htk⟩:=qoP (HSY.out.stable (i:=k) (s:=b.st) (by simp only[WM.wd,List.getElem?_map,HB.out];rfl)) HT.out
  have HTK:Hid (b.log.take t.l.length=t.l):=hJ htk;have HST:Hid (b.stable=(t.l.length:Int)):=hJ hst
  replace hsl:t.l.length≤b.log.length:=hsl
  clear htk hst;obtain⟨tn,htn⟩:∃x,x=t.l.length:=⟨_,rfl⟩
  rw[←htn] at hsl htl
  have HTN:=hJ htn
  clear htn;have hng:¬((b.log.length:Int)<(tn:Int)):=by omega
  have hbc:=(C.out.reads HB.out).2.cl.1
  have hslc:∀W,(Instr.slice 23 (.slice b.Al b.log.length b.cl) none (some (Jq (tn:Int))) none).run Tryz.prog W=.ok (.slice b.Al tn b.cl) W:=fun W=>qaA.slice_h b.Al b.log.length b.cl tn _ rfl (by omega) W
  have k4':wr.cell? (Pq gm (k*9+4))=some (Jq (tn:Int)):=by rw[k4,HST.out,HTN.out]
  clear k4;go_upto_region 12 with fail
  have EA:Hid (Ext wr (wr.alloc (.cells #[Jq b.self,.slice b.Av b.vs.length b.cv,Jq b.base,.slice b.Al b.log.length b.cl,Jq (tn:Int),Jq b.sent,.slice b.Ap b.pend.length b.cp,.slice b.Am b.marks.length b.cm,.slice b.Af b.fls.length b.cf] 28))):=hJ (Ext.new _ _)
  have BS:Hid (BIs (wr.alloc (.cells #[Jq b.self,.slice b.Av b.vs.length b.cv,Jq b.base,.slice b.Al b.log.length b.cl,Jq (tn:Int),Jq b.sent,.slice b.Ap b.pend.length b.cp,.slice b.Am b.marks.length b.cm,.slice b.Af b.fls.length b.cf] 28)) wr.heap.size #[Jq b.self,.slice b.Av b.vs.length b.cv,Jq b.base,.slice b.Al b.log.length b.cl,Jq (tn:Int),Jq b.sent,.slice b.Ap b.pend.length b.cp,.slice b.Am b.marks.length b.cm,.slice b.Af b.fls.length b.cf] 28):=hJ (BIs.new _ _ _)
  replace XR:=hJ (XR.out.trans EA.out);replace C:=hJ (C.out.ext EA.out)
  clear EA;generalize (wr.alloc (.cells #[Jq b.self,.slice b.Av b.vs.length b.cv,Jq b.base,.slice b.Al b.log.length b.cl,Jq (tn:Int),Jq b.sent,.slice b.Ap b.pend.length b.cp,.slice b.Am b.marks.length b.cm,.slice b.Af b.fls.length b.cf] 28))=w8 at *
  generalize wr.heap.size=rs at *
  clear k0 k1 k2 k3 k4' k5 k6 k7 k8 z1;refine qac 31 (fun w'=>Cq w' rs 3 (.slice b.Al b.log.length b.cl)∧Cq w' rs 4 (Jq (tn:Int))∧Cq w' p 3 (.slice (some (Pq gt 0)) told.length ct)∧Cq w' gt k (.slice t.A tn t.c)) (by kernel_rfl) ⟨(BS.out.ext Ext.drew1).cell 3,(BS.out.ext Ext.drew1).cell 4,(qaz (C.out.ext Ext.drew1)).2.2.2.1,by have h:=qhb (C.out.ext Ext.drew1).told HT.out;rw[←HTN.out] at h;exact h⟩ (fun hHeld=>?_)
  have XD:Hid (Ext w8 w8.drew):=hJ Ext.drew1
  replace XR:=hJ (XR.out.trans XD.out);replace C:=hJ (C.out.ext XD.out);replace BS:=hJ (BS.out.ext XD.out)
  clear XD;generalize w8.drew=u8 at *
  refine E_t 0 50 ?_;refine E_t 1 51 ?_;refine E_t 2 52 ?_;refine E_t 3 53 ?_;refine E_t 4 54 ?_;refine E_t 5 55 ?_;refine E_t 6 56 ?_;refine E_t 7 57 ?_;refine E_t 8 58 ?_;refine E_t 9 59 ?_;refine E_t 10 60 ?_;refine E_t 11 61 ?_;refine E_t 12 62 ?_;refine E_t 13 63 ?_;refine E_t 14 64 ?_;refine E_t 15 65 ?_;refine E_t 16 66 ?_;refine E_t 17 67 ?_;refine E_t 18 68 ?_;refine E_t 19 69 ?_;refine E_t 20 70 ?_;refine E_t 21 71 ?_;refine E_t 22 72 ?_;refine E_t 23 73 ?_;refine E_t 24 74 ?_;refine E_t 25 75 ?_;refine E_t 26 76 ?_;refine E_t 27 77 ?_;refine E_r 28 (some 78) fun K hK=>?_
  go_simp;go_at_call 20;refine(qgS b.Al t.A tn tn b.cl t.c (b.log.take tn) t.l _ (Elem.row_upto (C.out.reads HB.out).1.log tn) (C.out.ti k t HT.out).1.row (by rw[List.length_take];omega) HTN.out (by omega)).mono ?_
  rintro e w9 ⟨rfl,hx9⟩
  rw[show qd2 (b.log.take tn) t.l=true from by unfold qd2;rw[decide_eq_true_eq,HTN.out];exact HTK.out]
  replace XR:=hJ (XR.out.trans hx9);replace C:=hJ (C.out.ext hx9);replace BS:=hJ (BS.out.ext hx9)
  clear hx9;clear hHeld;refine hK.out _ _ ⟨(BS.out).cell 3,(BS.out).cell 4,(qaz (C.out)).2.2.2.1,by have h:=qhb (C.out).told HT.out;rw[←HTN.out] at h;exact h⟩ (fun hHeld=>?_)
  clear hK K;try simp only[Act.put,aP1,aP2,aP3]
  refine E_t 29 79 ?_;refine E_t 30 80 ?_;refine qaD (by kernel_rfl) (by rfl) ?_
  go_wp2;go_roundw
  case rel=>exact⟨k+1,by omega,by go_num,XR⟩
  case measure=>simp[intOf];omega
theorem walk{w:World}(num:Int)(A:Option Addr)(c:Nat)(xs:List Int)(_hi:I64 num)(hr:Row w A (qam xs))(hc:xs.length≤c)(hm:c≤maxLen)(_hx:∀x∈xs,I64 x)
  (D:Option Addr) (d:Nat) (l:List Mv) (hl:Row w D (mvE.cells l)) (_hd:l.length≤d) (_hd2:d≤maxLen) (hq:∀m∈l,qtC m) (W:World) (hW:w=W) :
  Calls Tryz.prog 7 #[.agg #[Jq num,.slice A xs.length c],.slice D l.length d] W fun e w'=>e=.returned (.bool true)∧Ext W w':=by
 subst hW
 exact walk0 num A c xs D d l w hr ⟨hc,hm⟩ (by unfold maxLen at hm;omega) hl hq
open Go.ChangeShapes Go.WideShapes Go.ChangeAt
theorem lifted(os:Os)(started:os.Started)(H:Type)(enc:TypeId×Value→H) :
  ReturnsInHanded {} Tryz.checked os 7 .any (Rows.castOrderSpec.pre6 enc Tryz.prog Tryz.f7 Rows.castOrderRow.domain false) (Rows.castOrderSpec.post enc Tryz.prog Tryz.f7 false true false false):=by
 refine returnsInHanded_of_change (C:=Tryz.checked) own started (by kernel_rfl) Tryz.func7
  (ChangeSpec.witness6 (enc:=enc) (C:=Tryz.checked) false ⟨#[],#[.agg #[Jq 0,Zq],Zq],[]⟩ 8 (by kernel_rfl) (by kernel_rfl) (by kernel_rfl) (by kernel_rfl)) ?_
 intro W base args ds gs before hval0 hW hcnd _
 have hval:∀(j:Nat) t v,Tryz.f7.params[j]?=some t→args[j]?=some v→Value.okWide Tryz.prog W .any base t v:=hval0
 have hW':=hW
 obtain⟨p,q,hA0,hV,rfl,hfz,hnd⟩:=hW
 have hA:DataW.TrodAll enc Tryz.prog W 0 (fun _=>true) true Tryz.f7.params.toList args.toList ds p:=hA0
 rw[Tryz.params7] at hA hval
 obtain⟨v0,vs0,d0,ds0,p0,q0,hargs,rfl,rfl,h0,r0⟩:=trodAll_cons hA
 obtain⟨v1,vs1,d1,ds1,p1,q1,rfl,rfl,rfl,h1,r1⟩:=trodAll_cons r0
 obtain⟨rfl,rfl,rfl⟩:=trodAll_nil r1
 obtain rfl:args=#[v0,v1]:=by cases args;simp_all
 obtain⟨rfl,rfl⟩:=trodVars_none hV
 have lt0:∀x∈p0,x.block<W.heap.size:=by obtain⟨m,hm⟩:=h0;exact DataW.trod_lt m _ _ _ hm
 have lt1:∀x∈p1,x.block<W.heap.size:=by obtain⟨m,hm⟩:=h1;exact DataW.trod_lt m _ _ _ hm
 obtain⟨n0,A0,c0,x0,e0,hi0,hc0,hm0,hr0,hx0⟩:=qq6 (hval 0 46 v0 rfl rfl) h0
 obtain⟨A1,c1,x1,e1,hc1,hm1,hr1,hq1⟩:=qpC (hval 1 68 v1 rfl rfl) h1
 clear hA0 hval0;have wk:=walk n0 A0 c0 x0 hi0 hr0 hc0 hm0 hx0 A1 c1 x1 hr1 hc1 hm1 hq1 W rfl
 rw[←e0,←e1] at wk
 refine wk.mono fun e W' ⟨he,bel⟩=>?_
 subst he
 exact⟨_,rfl,_,_,_,[],_,[],hW',trodAll_mk1 (shut_bool Tryz.underlying4 _),(trodAll_cons_mk (Below.trod qnM (by kernel_rfl) (of_decide_eq_true (by kernel_rfl)) h0 bel lt0) (trodAll_cons_mk (Below.trod qnM (by kernel_rfl) (of_decide_eq_true (by kernel_rfl)) h1 bel lt1) trodAll_mk0)),rfl,bel.frame _,fun h=>by cases h⟩
theorem over:Rows.castOrderRow.holds Tryz.pinned (OpenSpec.ofChange Rows.castOrderSpec):=
 OpenClaim.holds_of_wide 7 Tryz.f7 rfl rfl rfl rfl rfl rfl rfl ⟨rfl,rfl,rfl,rfl,rfl⟩ rfl rfl rfl rfl rfl (by kernel_rfl) Tryz.func7 (by kernel_rfl)
  (of_decide_eq_true (by kernel_rfl)) (by unfold Func.isWrapper;first|(rw[if_pos (by decide +kernel)];kernel_rfl)|(rw[if_neg (by decide +kernel)];exact⟨rfl,rfl⟩))
  (fun os started H enc _=>lifted os started H enc)
/-- the statement -/
theorem proved:Rows.CastOrderSaid:=over
#print axioms proved
