/- CastKeeps: in every schedule what a member has delivered is in the log of every member that has a base at least as new and whose view a majority has installed. Conditions: none beyond the statement's own. -/
import Derived.Test.YtponbabbabnaeaaGreatQd01
import Derived.Test.YtponbabbabnaeaaGreatQd35
import Derived.Test.YtponbabbabnaeaaGreatQd37
set_option maxRecDepth 100000
namespace Go.Proofs.YtponbabbabnaeaaGreat.castKeeps
open Go.RowKit
theorem qoN{v0:Int}{k:Nat}{H:qeP}{S:qf6}{m:WM}(h:Sys v0 k m.wd H S){i:Nat}{b:BM}(hs:m.mem[i]?=some b){x:Vw}(hk:qaA b.st.views b.base=some x)(hb:b.base≠-1)(hn:x.2.length / 2<m.mem.countP fun r=>decide (r.base=b.base))
  {j:Nat} {t:TlM} (ht:m.told[j]?=some t) (hl:qfq t.l<b.base):t.l<+:b.log:=
 h.keeps (i:=i) (s:=b.st) (by simp only[WM.wd,List.getElem?_map,hs];rfl) hk hb (by simp only[WM.wd,List.countP_map];exact hn) (j:=j) (by simp only[WM.wd,List.getElem?_map,ht];rfl) hl
set_option maxHeartbeats 4000000 in
theorem walk0(n:Int)(A:Option Addr)(c:Nat)(xs:List Int)(D:Option Addr)(d:Nat)(l:List Mv)(w:World)(hr:Row w A (qam xs))(hcm:xs.length≤c∧c≤maxLen)(hx:xs.length≤9223372036854775807)(hl:Row w D (mvE.cells l))(hq:∀m∈l,m.kind<256∧m.a<256∧m.cut<256∧m.n<65536) :
  Calls Tryz.prog 9 #[.agg #[Jq n,.slice A xs.length c],.slice D l.length d] w fun e w'=>e=.returned (.bool true)∧Ext w w':=by
 have XX:Hid (Ext w (w.alloc (.cells #[Jq n,.slice A xs.length c] 46))):=hJ (Ext.new _ _)
 have W_x:=hJ (hr.ext XX.out);have W_l:=hJ (hl.ext XX.out);have HQ:=hJ hq
 have HOL:Hid (∀X,w.heap.size≤X→qtm X D (mvE.cells l)):=hJ (fun X hX=>qsb hl hX)
 have B_v:Hid (BIs (w.alloc (.cells #[Jq n,.slice A xs.length c] 46)) w.heap.size #[Jq n,.slice A xs.length c] 46):=hJ (BIs.new _ _ _)
 clear hr hl hq;go_enter Tryz.func9,Tryz.ntmps9
 go_wp2_with fail
 generalize (w.alloc (.cells #[Jq n,.slice A xs.length c] 46))=u1 at *
 refine(qj4 _).mono ?_
 rintro e w1 ⟨rfl,hx1⟩
 replace B_v:=hJ (B_v.out.ext hx1);replace W_x:=hJ (W_x.out.ext hx1);replace W_l:=hJ (W_l.out.ext hx1);replace XX:=hJ (XX.out.trans hx1)
 clear hx1;have v0:w1.cell? (Pw w 0)=some (Jq n):=B_v.out.cell 0
 have v1:w1.cell? (Pw w 1)=some (.slice A xs.length c):=B_v.out.cell 1
 go_wp2_with fail
 refine(qfz n A c xs _ W_x.out hx).mono ?_
 rintro e w2 ⟨rfl,hx2⟩
 replace B_v:=hJ (B_v.out.ext hx2);replace W_x:=hJ (W_x.out.ext hx2);replace W_l:=hJ (W_l.out.ext hx2);replace XX:=hJ (XX.out.trans hx2)
 clear hx2 v0 v1;have v0:w2.cell? (Pw w 0)=some (Jq n):=B_v.out.cell 0
 have v1:w2.cell? (Pw w 1)=some (.slice A xs.length c):=B_v.out.cell 1
 by_cases hv:qan n xs=true
 rotate_left
 ·have hv':qan n xs=false:=by simpa using hv
  rw[hv']
  go_wp2;go_ret
  exact⟨rfl,XX.out⟩
 rw[hv]
 have HV:=hJ hv
 clear hv;by_cases h5:5<xs.length
 ·have h5':(5:Int)<(xs.length:Int):=by omega
  go_wp2;go_ret
  exact⟨rfl,XX.out⟩
 have h5':decide ((5:Int)<(xs.length:Int))=false:=by simp only[decide_eq_false_iff_not];omega
 have hx5:xs.length≤5:=by omega
 clear h5;by_cases h1:1000<n
 ·skip
  go_wp2;go_ret
  exact⟨rfl,XX.out⟩
 have h1':decide ((1000:Int)<n)=false:=by simp only[decide_eq_false_iff_not];omega
 clear h1;by_cases h2:200<l.length
 ·have h2':(200:Int)<(l.length:Int):=by omega
  go_wp2;go_ret
  exact⟨rfl,XX.out⟩
 have h2':decide ((200:Int)<(l.length:Int))=false:=by simp only[decide_eq_false_iff_not];omega
 have hl2:l.length≤200:=by omega
 clear h2;go_wp2_with fail
 refine(qmM n A c xs _ W_x.out hcm.1 hcm.2 (by omega)).mono ?_
 rintro e w4 ⟨m,col,p0,rfl,ws,wd,bl⟩
 obtain⟨HFI,H,S,HSY⟩:=qnc (W:=m.wd) HV.out hx5 hl2 wd
 replace HFI:=hJ HFI;replace HSY:=hJ HSY
 clear wd h5' h1' h2' v0 v1;have C4:=hJ ws;have BL:=hJ bl
 have X4:Hid (Ext w w4):=hJ (qm0 XX.out bl)
 have WX4:Hid (Row w4 A (qam xs)):=hJ (W_x.out.ext bl);have WL4:Hid (Row w4 D (mvE.cells l)):=hJ (W_l.out.ext bl)
 have BV4:=hJ (qi1 B_v.out bl B_v.out.lt)
 have HO:=hJ (HOL.out w2.heap.size XX.out.size)
 have HVB:=hJ B_v.out.lt;have HWS:=hJ XX.out.size
 clear ws bl XX W_x W_l B_v HOL BL;have C5:=hJ C4.out.rebox
 have XN:=hJ (Ext.new w4 (.cells m.cells 59))
 replace X4:=hJ (X4.out.trans XN.out);replace WL4:=hJ (WL4.out.ext XN.out);replace BV4:=hJ (BV4.out.ext XN.out)
 clear C4 XN WX4;unfold WM.cells at *
 go_wp2_with fail
 generalize (w4.alloc (.cells #[.slice m.Av m.vs.length m.cv,.slice m.Am m.mem.length m.cm,.slice m.Ad m.down.length m.cd,.slice m.At m.told.length m.ct,.slice m.As m.sent.length m.cs,.slice m.Af m.fly.length m.cf] 59))=w5 at *
 generalize qdg col w4.heap.size 1=col5 at *
 generalize w4.heap.size=p at *
 refine(qss m w2.heap.size col5 p D d l _ C5.out WL4.out HO.out (by omega) HQ.out HFI.out).mono ?_
 rintro e w6 ⟨m6,col6,rfl,ws6,wd6,bl6⟩
 rw[←wd6] at HSY
 have C:=hJ ws6;have XX:Hid (Ext w w6):=hJ (Below.trans X4.out (bl6.mono HWS.out))
 have B_v:=hJ (qi1 BV4.out bl6 HVB.out)
 clear ws6 wd6 bl6 HWS X4 WL4 BV4 HO HVB C5 HFI HQ;obtain⟨Av,cv,vs,Am,cm,mem,Ad,cd,down,At,ct,told,As,cs,sent,Af,cf,fly⟩:=m6
 have FN:=hJ (HSY.out.fine (by omega))
 have f1:=FN.out.ml;have f2:=FN.out.dl;have f3:=FN.out.tl;have f4:=FN.out.sl;have f5:=FN.out.vl
 simp only[WM.wd,List.length_map,qaI] at f1 f2 f3 f4 f5
 have HTL:Hid (∀t∈told,t.l.length≤100000):=hJ (fun t ht=>FN.out.told t.l (List.mem_map_of_mem ht))
 obtain⟨gm,_,hAm,_⟩:=qf3 C.out.mem (i:=0) (by simp only;omega)
 simp only at hAm
 subst hAm
 obtain⟨gt,_,hAt,_,_⟩:=qq4 C.out.told (i:=0) (by simp only;omega)
 simp only at hAt
 subst hAt
 clear B_v;have C6:=C;have X6:=XX
 clear C XX;go_wp2;go_loopw [6] (fun i wr=>∃k:Nat,k≤mem.length∧i=Jq k∧Hid (Ext w6 wr)) (fun i _=>mem.length - (intOf i).toNat)
 case atStart=>exact⟨0,Nat.zero_le _,rfl,hJ (Ext.refl _)⟩
 case round=>
  obtain⟨k,hk,rfl,XR⟩:=hrel
  obtain⟨wo,rfl⟩:∃x,x=wr:=⟨wr,rfl⟩
  have C:=hJ (C6.out.ext XR.out)
  have z1:=(qaB C.out).2.1
  simp only at z1
  by_cases hlt:k<mem.length
  rotate_left
  ·have hkk:k=mem.length:=by omega
   subst hkk
   go_wp2;go_ret
   exact⟨rfl,X6.out.trans XR.out⟩
  obtain⟨_,b,hA2,_,_,_,hb,k0,k1,k2,k3,k4,k5,k6,k7,k8⟩:=qf3 C.out.mem (i:=k) (by simp only;omega)
  simp only[Option.some.injEq,Addr.mk.injEq,and_true] at hA2 hb
  subst hA2
  have HB:=hJ hb
  clear hb;have HVB:=hJ (FN.out.val b.st (by simp only[WM.wd];exact List.mem_map_of_mem (List.mem_of_getElem? HB.out)))
  go_wp2_with fail
  have EA:Hid (Ext wo (wo.alloc (.cells b.cells 28))):=hJ (Ext.new _ _)
  have BS:Hid (BIs (wo.alloc (.cells b.cells 28)) wo.heap.size b.cells 28):=hJ (BIs.new _ _ _)
  replace XR:=hJ (XR.out.trans EA.out);replace C:=hJ (C.out.ext EA.out)
  clear EA;generalize (wo.alloc (.cells b.cells 28))=w8 at *
  generalize wo.heap.size=rs at *
  clear k0 k1 k2 k3 k4 k5 k6 k7 k8 z1;obtain⟨r,hr⟩:∃r,r=(if b.base = -1 then none else qaA b.st.views b.base):=⟨_,rfl⟩
  have HR:=hJ hr
  have hcur:=qjM b w8 (C.out.reads HB.out).1 (C.out.reads HB.out).2 HVB.out
  rw[←hr] at hcur
  clear hr;refine hcur.mono ?_
  rintro e w9 ⟨n1,A1,c1,kx,rfl,hkx,hx9⟩
  have HKX:=hJ hkx
  replace XR:=hJ (XR.out.trans hx9);replace BS:=hJ (BS.out.ext hx9)
  clear hcur hx9 hkx C;by_cases hb:b.base = -1
  ·have hr:=HR.out
   rw[if_pos hb] at hr
   subst hr
   have XN:=hJ (Ext.new w9 (.cells #[Jq n1,.slice A1 kx c1] 46))
   go_wp2;go_roundw
   case rel=>exact⟨k+1,by omega,by go_num,hJ (XR.out.trans XN.out)⟩
   case measure=>simp[intOf];omega
  obtain⟨x,hx⟩:∃x,qaA b.st.views b.base=some x:=by
   rcases(qb1.1 HVB.out).known with h|⟨v,h,_⟩
   ·exact absurd h hb
   ·exact⟨v,h⟩
  have hr:=HR.out
  rw[if_neg hb,hx] at hr
  subst hr
  have HX:=hJ hx;have HBN:=hJ hb
  replace HKX:Hid (kx=x.2.length):=hJ HKX.out
  clear hx hb HR;have hk16:kx≤16:=by rw[HKX.out];exact(qaH (qb7 (qb1.1 HVB.out).vs (qa8 HX.out).1).2.2.1).2
  have HKP:Hid (∀(j:Nat) (t:TlM),told[j]?=some t→kx / 2<mem.countP (fun r=>decide (r.base=b.base))→qfq t.l<b.base→t.l<+:b.log):=hJ (fun j t hj hn hl=>qoN HSY.out HB.out HX.out HBN.out (by rw[←HKX.out];exact hn) hj hl)
  go_wp2;have EA:Hid (Ext w9 (w9.alloc (.cells #[Jq n1,.slice A1 kx c1] 46))):=hJ (Ext.new _ _)
  have BX:Hid (BIs (w9.alloc (.cells #[Jq n1,.slice A1 kx c1] 46)) w9.heap.size #[Jq n1,.slice A1 kx c1] 46):=hJ (BIs.new _ _ _)
  replace XR:=hJ (XR.out.trans EA.out);replace BS:=hJ (BS.out.ext EA.out)
  clear EA;generalize (w9.alloc (.cells #[Jq n1,.slice A1 kx c1] 46))=wA at *
  generalize w9.heap.size=rx at *
  go_loopw [10,11] (fun s i wr=>∃j:Nat,j≤mem.length∧i=Jq j∧s=Jq (((mem.take j).countP fun r=>decide (r.base=b.base):Nat):Int)∧Hid (Ext wA wr)) (fun _ i _=>mem.length - (intOf i).toNat)
  case atStart=>exact⟨0,Nat.zero_le _,rfl,rfl,hJ (Ext.refl _)⟩
  case round=>
   obtain⟨j,hj,rfl,rfl,X2⟩:=hrel
   obtain⟨w2',rfl⟩:∃x,x=wr:=⟨wr,rfl⟩
   have C:=hJ (C6.out.ext (XR.out.trans X2.out))
   have z1:=(qaB C.out).2.1
   simp only at z1
   have hcl:(mem.take j).countP (fun r=>decide (r.base=b.base))≤1000:=Nat.le_trans List.countP_le_length (by rw[List.length_take];omega)
   obtain⟨cn,hcn⟩:∃x,x=(mem.take j).countP (fun r=>decide (r.base=b.base)):=⟨_,rfl⟩
   rw[←hcn] at hcl⊢
   have HCN:=hJ hcn
   clear hcn;by_cases hjl:j<mem.length
   ·obtain⟨_,q,hA2,_,_,_,hq,_,_,p2,_⟩:=qf3 C.out.mem (i:=j) (by simp only;omega)
    simp only[Option.some.injEq,Addr.mk.injEq,and_true] at hA2 hq
    subst hA2
    have HQ:=hJ hq
    clear hq;have s2:w2'.cell? (Pq rs 2)=some (Jq b.base):=(BS.out.ext X2.out).cell 2
    go_upto_region 18 with fail
    refine qac 9 (fun w'=>Cq w' p 1 (.slice (some (Pq gm 0)) mem.length cm)∧Cq w' gm (j*9+2) (Jq q.base)∧Cq w' rs 2 (Jq b.base)) (by kernel_rfl) ⟨z1,p2,s2⟩ (fun hHeld=>?_)
    have XD:Hid (Ext w2' w2'.drew):=hJ Ext.drew1
    replace X2:=hJ (X2.out.trans XD.out)
    clear XD;generalize w2'.drew=w3 at *
    refine E_t 0 66 ?_;refine E_t 1 67 ?_;refine E_t 2 68 ?_;refine E_t 3 69 ?_;refine E_t 4 70 ?_;refine E_t 5 71 ?_;refine E_t 6 72 ?_;refine E_t 7 73 ?_;refine E_t 8 74 ?_;refine qaE (by kernel_rfl) (by rfl) ?_
    by_cases he:q.base=b.base
    ·have he':(q.base == b.base)=true:=by simpa using he
     have hw:IntKind.i64.wrap ((cn:Int)+1)=((cn+1:Nat):Int):=by rw[IntWalk.i64_in _ (by omega)];omega
     have HC2:Hid (cn+1=(mem.take (j+1)).countP fun r=>decide (r.base=b.base)):=hJ (by rw[List.take_add_one,HQ.out,List.countP_append,←HCN.out];simp[he])
     go_wp2;go_roundw
     case rel=>exact⟨j+1,by omega,by go_num,by rw[←HC2.out];rfl,X2⟩
     case measure=>simp[intOf];omega
    have he':(q.base == b.base)=false:=by simpa using he
    have HC2:Hid (cn=(mem.take (j+1)).countP fun r=>decide (r.base=b.base)):=hJ (by rw[List.take_add_one,HQ.out,List.countP_append,←HCN.out];simp[he])
    go_wp2;go_roundw
    case rel=>exact⟨j+1,by omega,by go_num,by rw[←HC2.out],X2⟩
    case measure=>simp[intOf];omega
   have HCN2:Hid (cn=mem.countP fun r=>decide (r.base=b.base)):=hJ (by rw[HCN.out,List.take_of_length_le (by omega)])
   have hjj:j=mem.length:=by omega
   subst hjj
   clear hjl hj HCN;have xc:w2'.cell? (Pq rx 1)=some (.slice A1 kx c1):=(BX.out.ext X2.out).cell 1
   go_wp2;go_loopw [12] (fun i wr=>∃j:Nat,j≤mem.length∧i=Jq j∧Hid (Ext w2' wr)) (fun i _=>mem.length - (intOf i).toNat)
   case atStart=>exact⟨0,Nat.zero_le _,rfl,hJ (Ext.refl _)⟩
   case round=>
    clear xc z1;obtain⟨j,hj,rfl,X3⟩:=hrel
    have XA:=hJ ((XR.out.trans X2.out).trans X3.out)
    have C3:=hJ (C6.out.ext XA.out)
    obtain⟨_,z1,_,z3,_⟩:=qaB C3.out
    simp only at z1 z3
    have xc:wr.cell? (Pq rx 1)=some (.slice A1 kx c1):=(BX.out.ext (X2.out.trans X3.out)).cell 1
    have hdv:Int.tdiv (kx:Int) 2=((kx / 2:Nat):Int):=rfl
    have hdv2:(kx:Int) / 2=((kx / 2:Nat):Int):=rfl
    have hwd:IntKind.i64.wrap ((kx / 2:Nat):Int)=((kx / 2:Nat):Int):=IntWalk.i64_in _ (by omega)
    obtain⟨kh,hkh⟩:∃x,x=kx / 2:=⟨_,rfl⟩
    rw[←hkh] at hdv hdv2 hwd
    have HKH:=hJ hkh
    clear hkh;by_cases hjl:j<mem.length
    rotate_left
    ·have hjj:j=mem.length:=by omega
     subst hjj
     go_wp2;go_roundw
     case rel=>exact⟨k+1,by omega,by go_num,XA⟩
     case measure=>simp[intOf];omega
    by_cases hn:kh<cn
    rotate_left
    ·have hn':¬(kh:Int)<(cn:Int):=by omega
     go_wp2;go_roundw
     case rel=>exact⟨k+1,by omega,by go_num,XA⟩
     case measure=>simp[intOf];omega
    have hn':(kh:Int)<(cn:Int):=by omega
    obtain⟨_,t,hA2,ht,ct0⟩:=qq4 C3.out.told (i:=j) (by simp only;omega)
    simp only[Option.some.injEq,Addr.mk.injEq,and_true] at hA2 ht
    subst hA2
    have HT:=hJ ht;have htl:=HTL.out t (List.mem_of_getElem? ht)
    clear ht;have RT:=hJ (C3.out.ti j t HT.out).1.row;have BS3:=hJ (BS.out.ext (X2.out.trans X3.out));have RL:=hJ (C3.out.reads HB.out).1.log
    have hbc:=(C3.out.reads HB.out).2.cl.1
    skip
    go_upto_region 24 with fail
    clear hdv hdv2 hwd xc z1 z3 ct0;obtain⟨lv,hlv⟩:∃x,qfq t.l=x:=⟨_,rfl⟩
    have HLV:=hJ hlv
    clear hlv;by_cases hl:lv<b.base
    rotate_left
    ·skip
     refine qac 23 (fun w'=>Cq w' rs 2 (Jq b.base)∧Cq w' rs 3 (.slice b.Al b.log.length b.cl)) (by kernel_rfl) ⟨(BS3.out.ext Ext.drew1).cell 2,(BS3.out.ext Ext.drew1).cell 3⟩ (fun hHeld=>?_)
     have XD:Hid (Ext wr wr.drew):=hJ Ext.drew1
     replace XA:=hJ (XA.out.trans XD.out);replace X3:=hJ (X3.out.trans XD.out);replace BS3:=hJ (BS3.out.ext XD.out);replace RT:=hJ (RT.out.ext XD.out);replace RL:=hJ (RL.out.ext XD.out)
     clear XD;generalize wr.drew=u8 at *
     refine E_t 0 97 ?_;refine E_t 2 99 ?_;refine E_t 3 100 ?_;refine E_r 1 (some 98) fun K hK=>?_
     go_simp;go_at_call 35;refine(qfW t.A t.c t.l _ RT.out (by omega)).mono ?_
     rintro e w9' ⟨rfl,rfl⟩
     rw[HLV.out]
     clear hHeld;refine hK.out _ _ ⟨(BS3.out).cell 2,(BS3.out).cell 3⟩ (fun hHeld=>?_)
     clear hK K;try simp only[Act.put,aP1,aP2,aP3]
     refine E_t 4 101 ?_;refine E_t 5 102 ?_;refine E_s 6 103 ?_;refine E_s 7 104 ?_;refine E_s 8 105 ?_;refine E_s 9 106 ?_;refine E_s 10 107 ?_;refine E_s 11 108 ?_;refine E_s 12 109 ?_;refine E_s 13 110 ?_;refine E_s 14 111 ?_;refine E_s 15 112 ?_;refine E_s 16 113 ?_;refine E_s 17 114 ?_;refine E_s 18 115 ?_;refine E_s 19 116 ?_;refine E_s 20 117 ?_;refine E_s 21 118 ?_;refine E_t 22 119 ?_;refine qaE (by kernel_rfl) (by rfl) ?_
     go_wp2;go_roundw
     case rel=>exact⟨j+1,by omega,by go_num,X3⟩
     case measure=>simp[intOf];omega
    have hpx:=HKP.out j t HT.out (by rw[←HKH.out,←HCN2.out];exact hn) (by rw[HLV.out];exact hl)
    have hle:=hpx.length_le
    have HSM:Hid (qes t.l (b.log.take t.l.length)=true):=hJ (by unfold qes;rw[decide_eq_true_eq];exact List.prefix_iff_eq_take.1 hpx)
    clear hpx;have hng:¬(b.log.length:Int)<(t.l.length:Int):=by omega
    have hslc:∀W,(Instr.slice 23 (.slice b.Al b.log.length b.cl) none (some (Jq (t.l.length:Int))) none).run Tryz.prog W=.ok (.slice b.Al t.l.length b.cl) W:=fun W=>qaz.slice_h b.Al b.log.length b.cl t.l.length _ rfl (by omega) W
    refine qac 23 (fun w'=>Cq w' rs 2 (Jq b.base)∧Cq w' rs 3 (.slice b.Al b.log.length b.cl)) (by kernel_rfl) ⟨(BS3.out.ext Ext.drew1).cell 2,(BS3.out.ext Ext.drew1).cell 3⟩ (fun hHeld=>?_)
    have XD:Hid (Ext wr wr.drew):=hJ Ext.drew1
    replace XA:=hJ (XA.out.trans XD.out);replace X3:=hJ (X3.out.trans XD.out);replace BS3:=hJ (BS3.out.ext XD.out);replace RT:=hJ (RT.out.ext XD.out);replace RL:=hJ (RL.out.ext XD.out)
    clear XD;generalize wr.drew=u8 at *
    refine E_t 0 97 ?_;refine E_t 2 99 ?_;refine E_t 3 100 ?_;refine E_r 1 (some 98) fun K hK=>?_
    go_simp;go_at_call 35;refine(qfW t.A t.c t.l _ RT.out (by omega)).mono ?_
    rintro e w9' ⟨rfl,rfl⟩
    rw[HLV.out]
    clear hHeld;refine hK.out _ _ ⟨(BS3.out).cell 2,(BS3.out).cell 3⟩ (fun hHeld=>?_)
    clear hK K;try simp only[Act.put,aP1,aP2,aP3]
    refine E_t 4 101 ?_;refine E_t 5 102 ?_;refine E_t 6 103 ?_;refine E_t 7 104 ?_;refine E_t 8 105 ?_;refine E_t 9 106 ?_;refine E_t 10 107 ?_;refine E_t 11 108 ?_;refine E_t 12 109 ?_;refine E_t 13 110 ?_;refine E_t 14 111 ?_;refine E_t 15 112 ?_;refine E_t 16 113 ?_;refine E_t 17 114 ?_;refine E_t 18 115 ?_;refine E_r 19 (some 116) fun K hK=>?_
    go_simp;go_at_call 20;refine(qjL t.A b.Al t.l.length t.l.length t.c b.cl t.l (b.log.take t.l.length) _ RT.out (Elem.row_upto RL.out _) rfl (by rw[List.length_take];omega) (by omega)).mono ?_
    rintro e wB ⟨rfl,hxB⟩
    rw[HSM.out]
    replace X3:=hJ (X3.out.trans hxB);replace BS3:=hJ (BS3.out.ext hxB)
    clear hxB;clear hHeld;refine hK.out _ _ ⟨(BS3.out).cell 2,(BS3.out).cell 3⟩ (fun hHeld=>?_)
    clear hK K;try simp only[Act.put,aP1,aP2,aP3]
    refine E_t 20 117 ?_;refine E_t 21 118 ?_;refine E_t 22 119 ?_;refine qaE (by kernel_rfl) (by rfl) ?_
    go_wp2;go_roundw
    case rel=>exact⟨j+1,by omega,by go_num,X3⟩
    case measure=>simp[intOf];omega
theorem walk{w:World}(num:Int)(A:Option Addr)(c:Nat)(xs:List Int)(_hi:I64 num)(hr:Row w A (qam xs))(hc:xs.length≤c)(hm:c≤maxLen)(_hx:∀x∈xs,I64 x)
  (D:Option Addr) (d:Nat) (l:List Mv) (hl:Row w D (mvE.cells l)) (_hd:l.length≤d) (_hd2:d≤maxLen) (hq:∀m∈l,qtB m) (W:World) (hW:w=W) :
  Calls Tryz.prog 9 #[.agg #[Jq num,.slice A xs.length c],.slice D l.length d] W fun e w'=>e=.returned (.bool true)∧Ext W w':=by
 subst hW
 exact walk0 num A c xs D d l w hr ⟨hc,hm⟩ (by unfold maxLen at hm;omega) hl hq
open Go.ChangeShapes Go.WideShapes Go.ChangeAt
theorem lifted(os:Os)(started:os.Started)(H:Type)(enc:TypeId×Value→H) :
  ReturnsInHanded {} Tryz.checked os 9 .any (Rows.castKeepsSpec.pre6 enc Tryz.prog Tryz.f9 Rows.castKeepsRow.domain false) (Rows.castKeepsSpec.post enc Tryz.prog Tryz.f9 false true false false):=by
 refine returnsInHanded_of_change (C:=Tryz.checked) own started (by kernel_rfl) Tryz.func9
  (ChangeSpec.witness6 (enc:=enc) (C:=Tryz.checked) false ⟨#[],#[.agg #[Jq 0,Zq],Zq],[]⟩ 8 (by kernel_rfl) (by kernel_rfl) (by kernel_rfl) (by kernel_rfl)) ?_
 intro W base args ds gs before hval0 hW hcnd _
 have hval:∀(j:Nat) t v,Tryz.f9.params[j]?=some t→args[j]?=some v→Value.okWide Tryz.prog W .any base t v:=hval0
 have hW':=hW
 obtain⟨p,q,hA0,hV,rfl,hfz,hnd⟩:=hW
 have hA:DataW.TrodAll enc Tryz.prog W 0 (fun _=>true) true Tryz.f9.params.toList args.toList ds p:=hA0
 rw[Tryz.params9] at hA hval
 obtain⟨v0,vs0,d0,ds0,p0,q0,hargs,rfl,rfl,h0,r0⟩:=trodAll_cons hA
 obtain⟨v1,vs1,d1,ds1,p1,q1,rfl,rfl,rfl,h1,r1⟩:=trodAll_cons r0
 obtain⟨rfl,rfl,rfl⟩:=trodAll_nil r1
 obtain rfl:args=#[v0,v1]:=by cases args;simp_all
 obtain⟨rfl,rfl⟩:=trodVars_none hV
 have lt0:∀x∈p0,x.block<W.heap.size:=by obtain⟨m,hm⟩:=h0;exact DataW.trod_lt m _ _ _ hm
 have lt1:∀x∈p1,x.block<W.heap.size:=by obtain⟨m,hm⟩:=h1;exact DataW.trod_lt m _ _ _ hm
 obtain⟨n0,A0,c0,x0,e0,hi0,hc0,hm0,hr0,hx0⟩:=qro (hval 0 46 v0 rfl rfl) h0
 obtain⟨A1,c1,x1,e1,hc1,hm1,hr1,hq1⟩:=qqb (hval 1 68 v1 rfl rfl) h1
 clear hA0 hval0;have wk:=walk n0 A0 c0 x0 hi0 hr0 hc0 hm0 hx0 A1 c1 x1 hr1 hc1 hm1 hq1 W rfl
 rw[←e0,←e1] at wk
 refine wk.mono fun e W' ⟨he,bel⟩=>?_
 subst he
 exact⟨_,rfl,_,_,_,[],_,[],hW',trodAll_mk1 (shut_bool Tryz.underlying4 _),(trodAll_cons_mk (Below.trod qoB (by kernel_rfl) (of_decide_eq_true (by kernel_rfl)) h0 bel lt0) (trodAll_cons_mk (Below.trod qoB (by kernel_rfl) (of_decide_eq_true (by kernel_rfl)) h1 bel lt1) trodAll_mk0)),rfl,bel.frame _,fun h=>by cases h⟩
theorem over:Rows.castKeepsRow.holds Tryz.pinned (OpenSpec.ofChange Rows.castKeepsSpec):=
 OpenClaim.holds_of_wide 9 Tryz.f9 rfl rfl rfl rfl rfl rfl rfl ⟨rfl,rfl,rfl,rfl,rfl⟩ rfl rfl rfl rfl rfl (by kernel_rfl) Tryz.func9 (by kernel_rfl)
  (of_decide_eq_true (by kernel_rfl)) (by unfold Func.isWrapper;first|(rw[if_pos (by decide +kernel)];kernel_rfl)|(rw[if_neg (by decide +kernel)];exact⟨rfl,rfl⟩))
  (fun os started H enc _=>lifted os started H enc)
/-- the statement -/
theorem proved:Rows.CastKeepsSaid:=over
#print axioms proved
