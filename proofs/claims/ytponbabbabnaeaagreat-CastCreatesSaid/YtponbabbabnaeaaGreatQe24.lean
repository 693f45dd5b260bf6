/- Part 24 of the proof: contracts of functions that the statement reaches. Conditions: as each theorem says. -/
import Derived.Lib.ReflectliteSwap
import Derived.Test.YtponbabbabnaeaaGreatQe01
import Derived.Test.YtponbabbabnaeaaGreatQe23
import Derived.Test.YtponbabbabnaeaaGreatQe19
import Derived.Test.YtponbabbabnaeaaGreatQe11
import Derived.Test.YtponbabbabnaeaaGreatQe21
import Derived.Test.YtponbabbabnaeaaGreatQe22
set_option maxRecDepth 100000
namespace Go.Proofs.YtponbabbabnaeaaGreat
open Go.RowKit
theorem qei {P : Prop} (h : P := by
 obtain⟨y0,y1,y2,y3,y4,y5,y6,y7,y8⟩:=qbC BR1.out
 obtain⟨z0,z1,z2,z3,z4,z5,z6,z7,z8⟩:=BR1.out.free9
 go_wp2;have BF:=qaJ (a0:=Jq 0) (a1:=Zq) (a2:=Jq 0) (a3:=Zq) (a4:=Jq 0) (a5:=Jq 0) (a6:=Zq) (a7:=Zq) (a8:=Zq) BR1.out
 obtain⟨e0,e1,e2,e3,e4,e5,e6,e7,e8⟩:=qbC BF
 refine bodyPost_ret (v:=.tuple #[.agg Yq,Zq,Zq,Jq 1]) (by simp[results,Tryz.results16,go_sem,e0,e1,e2,e3,e4,e5,e6,e7,e8]) rfl ?_
 rw[HRF.out]
 exact qiK 1 (qak.ext (E0.out.trans X1.out) (show w.heap.size≤w.heap.size+1 by omega))) : P := h
def re(col:Nat→Nat)(v:Value)(c:Nat):Nat→Nat:=fun k=>if v.ownBlock=some k then c else col k
theorem qsY{col:Nat→Nat}{v:Value}{c q:Nat}(h:v.ownBlock=some q):re col v c q=c:=by unfold re;rw[if_pos h]
theorem qqK{col:Nat→Nat}{v:Value}{c k:Nat}(h:∀q,v.ownBlock=some q→k≠q):re col v c k=col k:=by unfold re;rw[if_neg (fun e=>h k e rfl)]
theorem qkj{col:Nat→Nat}{v:Value}{c k:Nat}(h:∀q,v.ownBlock=some q→col q=8)(hk:col k≠8):re col v c k=col k:=qqK (fun q hq e=>hk (by rw[e];exact h q hq))
section
variable {w:World} {B B' p:Nat} {col:Nat→Nat} {m:CM} {v:Value} {c k:Nat} {A:Option Addr} {xs:List Value}
theorem ColR.re(h:ColR col k A xs)(hv:∀q,v.ownBlock=some q→col q=8)(hk:k≠8):ColR (re col v c) k A xs:=fun p hx hp=>by rw[qkj hv (by rw[h p hx hp];exact hk)];exact h p hx hp
theorem ColV.re{u:Value}(h:ColV col k u)(hv:∀q,v.ownBlock=some q→col q=8)(hk:k≠8):ColV (re col v c) k u:=fun q hq=>by rw[qkj hv (by rw[h q hq];exact hk)];exact h q hq
theorem CS.base(h:CS w B col p m)(hb:B'≤B):CS w B' col p m:=⟨h.box,h.pc,Nat.le_trans hb h.bp,h.lies.base hb,h.pk.base hb,h.kc,h.ki,h.dl.base hb,h.dc,h.fits,h.cp⟩
theorem CS.re(h:CS w B col p m)(hv:∀q,v.ownBlock=some q→col q=8):CS w B (re col v c) p m:=by
 have l:=h.lies
 refine⟨h.box,by rw[qkj hv (by rw[h.pc];decide)];exact h.pc,h.bp,⟨l.vs,l.vc.re hv (by decide),fun x hx=>(l.vi x hx).re hv (by decide),l.log,l.lc.re hv (by decide),l.pend,l.pc.re hv (by decide),l.marks,l.mc.re hv (by decide),l.fls,l.fc.re hv (by decide),fun f hf=>⟨(l.fi f hf).1,(l.fi f hf).2.1,(l.fi f hf).2.2.re hv (by decide)⟩⟩,
  h.pk,h.kc.re hv (by decide),fun x hx=>⟨(h.ki x hx).1,(h.ki x hx).2.1,(h.ki x hx).2.2.re hv (by decide)⟩,h.dl,h.dc.re hv (by decide),h.fits,h.cp⟩
end
theorem qfE{s:St}{fr:Int}{frame:List UInt8}(hv:qbp s=true)(hi:qb2 fr=true)(hn:fr≠s.self):qal s fr frame=match qa3 frame with|none=>(⟨qcI,[],[]⟩,3)|some m=>(if m.num=(qaf s.views).1 then qaP ⟨s,[],[]⟩ fr m else ⟨s,[],[]⟩,0):=by
 unfold qal
 rw[if_neg (by simp[hv,hi,hn])]
 cases qa3 frame<;>rfl
theorem qiK{w w':World}(er:Int)(hx:Ext w w'):qkV w ⟨qcI,[],[]⟩ er (.returned (.tuple #[.agg Yq,Zq,Zq,Jq er])) w':=
 ⟨⟨qdc,none,0,[],none,0,[]⟩,rfl,rfl,qgV _,qh3,⟨Row.nil _ _,fun a ha=>by simp at ha⟩,Row.nil _ _,hx,⟨fun _ h=>by simp[qdc,Elem.cells] at h,fun _ h=>by simp[qdc] at h,fun _ h=>by simp[qdc,Elem.cells] at h,fun _ h=>by simp[qdc,Elem.cells] at h,fun _ h=>by simp[qdc,Elem.cells] at h,fun _ h=>by simp[qdc,Elem.cells] at h,fun _ h=>by simp[qdc] at h⟩,fun _ h=>by simp[Elem.cells] at h,fun _ h=>by simp[Elem.cells] at h,fun _ h=>by simp at h⟩
set_option maxHeartbeats 2000000 in
theorem qeY(b:BM)(fr:Int)(A:Option Addr)(c:Nat)(frame:List UInt8)(w:World)(h:b.Reads w)(hf:b.Fits)(hrow:Row w A (qad frame))(hc:frame.length≤c)(hl:frame.length≤1000000) :
  Calls Tryz.prog 16 #[.agg b.cells,Jq fr,.slice A frame.length c] w (qkV w (qal b.st fr frame).1 (qal b.st fr frame).2):=by
 have E0:Hid (Ext w ((w.alloc (.cells b.cells 28)).alloc (.cells Yq 28))):=hJ ((Ext.new _ _).trans (Ext.new _ _))
 have R0:=hJ (h.ext E0.out);have HFT:=hJ hf;have HROW:=hJ hrow
 clear h hf hrow;unfold BM.cells
 go_enter Tryz.func16,Tryz.ntmps16
 go_wp2_with fail
 refine(qbR b _ R0.out HFT.out).mono ?_
 rintro en w1 ⟨rfl,hx1⟩
 have X1:=hJ hx1
 have BR1:Hid (BIs w1 (w.heap.size+1) Yq 28):=hJ (by have:=BIs.ext (BIs.new (w.alloc (.cells b.cells 28)) Yq 28) hx1;simpa using this)
 have BP1:Hid (BIs w1 w.heap.size b.cells 28):=hJ (((BIs.new w b.cells 28).ext (Ext.new _ _)).ext hx1)
 clear hx1;obtain⟨q0,q1,q2,q3,q4,q5,q6,q7,q8⟩:=qbC BP1.out
 have hp12:Hid (w.heap.size+1<w1.heap.size):=hJ BR1.out.lt
 cases hv:qbp b.st with
 | false=>
  have HRF:Hid (qal b.st fr frame=(⟨qcI,[],[]⟩,1)):=hJ (by unfold qal;rw[if_pos (.inl hv)])
  exact qei
 | true=>
  have HV:=hJ hv
  clear hv;go_wp2_with fail
  refine(qcm fr w1).mono ?_
  rintro en w1' ⟨rfl,rfl⟩
  cases hid:qb2 fr with
  | false=>
   have HRF:Hid (qal b.st fr frame=(⟨qcI,[],[]⟩,1)):=hJ (by unfold qal;rw[if_pos (.inr (.inl hid))])
   exact qei
  | true=>
   have HID:=hJ hid
   clear hid;cases hne:(fr == b.self) with
   | true=>
    have HRF:Hid (qal b.st fr frame=(⟨qcI,[],[]⟩,1)):=hJ (by unfold qal;rw[if_pos (.inr (.inr (show fr=b.self by simpa using hne)))])
    exact qei
   | false=>
    have HNE:Hid (fr≠b.self):=hJ (by simpa using hne)
    have HRF0:Hid (qal b.st fr frame=match qa3 frame with|none=>(⟨qcI,[],[]⟩,3)|some m=>(if m.num=(qaf b.st.views).1 then qaP ⟨b.st,[],[]⟩ fr m else ⟨b.st,[],[]⟩,0)):=hJ (qfE HV.out HID.out HNE.out)
    have OK:=hJ (qgs HV.out)
    have VV:=hJ (qb1.1 HV.out)
    go_wp2_with fail
    refine(qoV A c frame w1 (HROW.out.ext (E0.out.trans X1.out)) hc hl).mono ?_
    rintro en w2 (⟨a0,a1,a2,a3,a4,a5,a6,a7,rfl,hrn,hx2⟩|⟨mm,Ae,ce,rfl,hrn,he1,he2,hob,hx2⟩)
    ·have HRF:Hid (qal b.st fr frame=(⟨qcI,[],[]⟩,3)):=hJ (by rw[HRF0.out,hrn])
     have BR2:=hJ ((BR1.out.ext hx2).ext (Ext.new w2 (.cells #[Jq a0,Jq a1,Jq a2,Jq a3,.string a4,.slice a5 a6 a7] 110)))
     have X2:=hJ (((E0.out.trans X1.out).trans hx2).trans (Ext.new w2 (.cells #[Jq a0,Jq a1,Jq a2,Jq a3,.string a4,.slice a5 a6 a7] 110)))
     clear hx2 hrn q0 q1 q2 q3 q4 q5 q6 q7 q8;obtain⟨y0,y1,y2,y3,y4,y5,y6,y7,y8⟩:=qbC BR2.out
     obtain⟨z0,z1,z2,z3,z4,z5,z6,z7,z8⟩:=BR2.out.free9
     go_wp2;have BF:=qaJ (a0:=Jq 0) (a1:=Zq) (a2:=Jq 0) (a3:=Zq) (a4:=Jq 0) (a5:=Jq 0) (a6:=Zq) (a7:=Zq) (a8:=Zq) BR2.out
     obtain⟨e0,e1,e2,e3,e4,e5,e6,e7,e8⟩:=qbC BF
     refine bodyPost_ret (v:=.tuple #[.agg Yq,Zq,Zq,Jq 3]) (by simp[results,Tryz.results16,go_sem,e0,e1,e2,e3,e4,e5,e6,e7,e8]) rfl ?_
     rw[HRF.out]
     exact qiK 3 (qak.ext (X2.out) (show w.heap.size≤w.heap.size+1 by omega))
    obtain⟨hl1,hl2,hl3,hl4⟩:=qpG hrn
    obtain⟨kind,num,first,mst,pay,ents⟩:=mm
    simp only at he1 hob hl1 hl2 hl3 hl4
    have HRG:Hid (qal b.st fr frame=(if num=(qaf b.st.views).1 then qaP ⟨b.st,[],[]⟩ fr ⟨kind,num,first,mst,pay,ents⟩ else ⟨b.st,[],[]⟩,0)):=hJ (by rw[HRF0.out,hrn])
    have X2:=hJ hx2
    have HOE:=hJ hob.1
    have HL2:=hJ hl2
    clear hrn hl2;have E2:Hid (Ext w2 (w2.alloc (.cells #[Jq kind,Jq num,Jq first,Jq mst,.string (qax pay),.slice Ae ents.length ce] 110))):=hJ (Ext.new _ _)
    have M2:Hid (BIs (w2.alloc (.cells #[Jq kind,Jq num,Jq first,Jq mst,.string (qax pay),.slice Ae ents.length ce] 110)) w2.heap.size #[Jq kind,Jq num,Jq first,Jq mst,.string (qax pay),.slice Ae ents.length ce] 110):=hJ (BIs.new _ _ _)
    clear hob hx2 q0 q1 q2 q3 q4 q5 q6 q7 q8;obtain⟨q0,q1,q2,q3,q4,q5,q6,q7,q8⟩:=qbC (BP1.out.ext X2.out)
    have hp2:w.heap.size<w2.heap.size:=(BP1.out.ext X2.out).lt
    have hlt1:Hid (w1.heap.size≤w2.heap.size):=hJ X2.out.size
    go_wp2_with fail
    refine(qfo b _ (R0.out.ext ((X1.out.trans X2.out).trans E2.out)) HFT.out).mono ?_
    rintro en w3 ⟨b',col,rfl,hst',hft',hli,hc8,hpo,hpc,hx3⟩
    obtain⟨_,_,hvp,hcpb,_,_⟩:=hpo.slice
    have hcp:b'.pend.length≤b'.cp:=by simp only[Value.slice.injEq] at hvp;omega
    have X3:=hJ (E2.out.trans hx3);have HC8:=hJ hc8;have HST:=hJ hst'
    have M3:=hJ (M2.out.ext hx3)
    have hs3:Hid (w2.heap.size+1≤w3.heap.size):=hJ (by have:=hx3.size;simpa using this)
    have HAE:Hid (∀k,(Value.slice Ae ents.length ce).ownBlock=some k→w1.heap.size≤k∧k<w2.heap.size):=hJ HOE.out.lt
    have HA8:Hid (∀k,(Value.slice Ae ents.length ce).ownBlock=some k→(qai (qai col w3.heap.size 1) (w3.heap.size+1) 8) k=8):=hJ (fun k hk=>by have h1:=(HAE.out k hk).2;have h3:=hs3.out;rw[qah (by omega),qah (by omega)];exact HC8.out _ (by simp;omega))
    have C4:Hid (CS (w3.alloc (.cells (⟨b',none,0,[],none,0,[]⟩:CM).cells 86)) w.heap.size (re (qai (qai col w3.heap.size 1) (w3.heap.size+1) 8) (.slice Ae ents.length ce) 2) w3.heap.size ⟨b',none,0,[],none,0,[]⟩):=hJ (((qsc (by simpa using hli) hft' hcp hs3.out).base (by omega)).re HA8.out)
    have HFT':=hJ hft'
    have BR4:Hid (BIs (w3.alloc (.cells (⟨b',none,0,[],none,0,[]⟩:CM).cells 86)) (w.heap.size+1) Yq 28):=hJ (((BR1.out.ext X2.out).ext X3.out).ext (Ext.new _ _))
    have M4:Hid (BIs (w3.alloc (.cells (⟨b',none,0,[],none,0,[]⟩:CM).cells 86)) w2.heap.size #[Jq kind,Jq num,Jq first,Jq mst,.string (qax pay),.slice Ae ents.length ce] 110):=hJ (M3.out.ext (Ext.new _ _))
    have X4:Hid (Ext w (w3.alloc (.cells (⟨b',none,0,[],none,0,[]⟩:CM).cells 86))):=hJ ((((E0.out.trans X1.out).trans X2.out).trans X3.out).trans (Ext.new _ _))
    have HOE4:Hid (qaz.Own (w3.alloc (.cells (⟨b',none,0,[],none,0,[]⟩:CM).cells 86)) w.heap.size (.slice Ae ents.length ce) ents):=hJ ((HOE.out.base (by have:=hp12.out;omega)).ext (X3.out.trans (Ext.new _ _)))
    have hvl:0<b'.vs.length:=by
     have h1:=OK.out.vs
     rw[←HST.out] at h1
     simpa[BM.st,qaI] using h1
    have hfv:=hft'.vs
    obtain⟨⟨tn,xs⟩,hlv⟩:∃v,qaf (vws b'.vs)=v:=⟨_,rfl⟩
    have HLV:=hJ hlv
    have HTN:Hid ((qaf b.st.views).1=tn):=hJ (by rw[←HST.out];show (qaf (vws b'.vs)).1=tn;rw[hlv])
    clear hlv;have VB:Hid (VS b'.st):=hJ (by rw[HST.out];exact VV.out)
    have OKB:Hid (OkS b'.st):=hJ (by rw[HST.out];exact OK.out)
    have hmk:b'.marks.length≤50000:=by have h9:b'.marks.length≤1000:=VB.out.mk_len;omega
    have hfn:b'.fls.length≤49999:=by have h9:=VB.out.fl_len;rw[qiG] at h9;omega
    have hlg:b'.log.length≤2000:=OKB.out.log
    have HVX:Hid (∀v∈b'.vs,v.xs.length≤1000):=hJ (fun v hv=>by have:=(VB.out.vx v.v (List.mem_map_of_mem hv)).1;simp only[VwM.v] at this;omega)
    clear hst' hft' hli hc8 hpo hpc hx3 hvp hcpb hcp q0 q1 q2 q3 q4 q5 q6 q7 q8;unfold BM.cells
    go_upto_region 7 with fail
    unfold CM.cells at C4 BR4 M4 X4 HOE4
    simp only[List.length_nil] at C4 BR4 M4 X4 HOE4
    generalize w3.alloc (.cells #[Jq b'.self,.slice b'.Av b'.vs.length b'.cv,Jq b'.base,.slice b'.Al b'.log.length b'.cl,Jq b'.stable,Jq b'.sent,.slice b'.Ap b'.pend.length b'.cp,.slice b'.Am b'.marks.length b'.cm,.slice b'.Af b'.fls.length b'.cf,Zq,Zq] 86)=w4 at *
    have b1:w4.cell? (Pw w2 1)=some (Jq num):=M4.out.cell 1
    have q1:w4.cell? (Pw w3 1)=some (.slice b'.Av b'.vs.length b'.cv):=C4.out.cell 1
    have hm4:w2.heap.size<w4.heap.size:=M4.out.lt
    have hc4:w3.heap.size<w4.heap.size:=C4.out.lt
    have hfd:=qeF
    refine qac 10 (fun w'=>w'.cell? (Pw w2 1)=some (Jq num)∧w'.cell? (Pw w3 1)=some (.slice b'.Av b'.vs.length b'.cv)) (by kernel_rfl) ⟨b1,q1⟩ (fun hHeld=>?_)
    refine E_t 0 40 ?_;refine E_t 1 41 ?_;refine E_t 2 42 ?_;refine E_t 3 43 ?_;refine E_t 4 44 ?_;refine E_t 5 45 ?_;refine E_t 6 46 ?_;refine E_r 7 (some 47) fun K hK=>?_
    go_simp;go_at_call 49;refine(qdj b'.Av b'.cv b'.vs _ (by exact C4.out.lies.vs.ext Ext.drew1) hvl (by omega) tn xs HLV.out).mono ?_
    rintro en w5 ⟨A5,c5,rfl,h51,h52,HR5,hx5⟩
    have X5:Hid (Ext w4 w5):=hJ (Ext.drew1.trans hx5)
    clear hx5;clear hHeld;refine hK.out _ _ ⟨by rw[X5.out.cell (by exact hm4)];exact b1,by rw[X5.out.cell (by exact hc4)];exact q1⟩ (fun hHeld=>?_)
    clear hK K;try simp only[Act.put,aP1,aP2,aP3]
    refine E_t 8 48 ?_;refine E_t 9 49 ?_;refine qaE (by kernel_rfl) (by rfl) ?_
    clear b1 q1 hHeld;have C5:=hJ (C4.out.ext X5.out);have BR5:=hJ (BR4.out.ext X5.out);have M5:=hJ (M4.out.ext X5.out)
    have X05:=hJ (X4.out.trans X5.out)
    have HOE5:=hJ (HOE4.out.ext X5.out)
    obtain⟨bq,hbq⟩:∃x,(num == tn)=x:=⟨_,rfl⟩
    have HBQ:=hJ hbq
    try simp only[hbq]
    clear hbq;go_upto_if 49 with fail
    go_cut [] (fun wx=>∃(m6:CM) (col6:Nat→Nat),Hid (CS wx w.heap.size col6 w3.heap.size m6)∧Hid (m6.cs=(qal b.st fr frame).1)∧Hid (Stp w.heap.size [1,2,3,4,5,7] (re (qai (qai col w3.heap.size 1) (w3.heap.size+1) 8) (.slice Ae ents.length ce) 2) w5 col6 wx))
    case first=>
     cases bq with
     | false=>
      go_wp2;go_meet
      case rel=>exact⟨_,_,C5,hJ (by rw[HRG.out];simp only;rw[if_neg (by rw[HTN.out];simpa using HBQ.out)];simp only[CM.cs,HST.out,List.map_nil]),hJ (Stp.refl _ _ _ _)⟩
     | true=>
      obtain⟨b0,b1,b2,b3,b4,b5⟩:=six M5.out
      go_wp2_with fail
      refine(qmh ⟨b',none,0,[],none,0,[]⟩ w.heap.size (re (qai (qai col w3.heap.size 1) (w3.heap.size+1) 8) (.slice Ae ents.length ce) 2) w3.heap.size fr kind num first mst pay ents Ae ce w5 C5.out OKB.out (by simp) hmk hfn HVX.out (by omega) HOE5.out (fun q hq=>qsY hq) he1 hl1 HL2.out (by omega) hlg hl4).mono ?_
      rintro en w6 ⟨m6,col6,rfl,hc6,hm6,hs6⟩
      go_wp2;go_meet
      case rel=>exact⟨m6,col6,hJ hc6,hJ (by rw[HRG.out];simp only;rw[if_pos (by rw[HTN.out];simpa using HBQ.out),hm6];simp only[CM.cs,HST.out,List.map_nil]),hJ hs6⟩
    case rest=>
     obtain⟨m6,col6,hc6',hm6',S6⟩:=hcut
     have hc6:=hc6'.out
     have hME:Hid (m6.cs=(qal b.st fr frame).1):=hm6'
     clear hc6' hm6';obtain⟨w6,rfl⟩:∃x,x=wc:=⟨_,rfl⟩
     have hRe:Hid (∀k,k≤w.heap.size+1→(re (qai (qai col w3.heap.size 1) (w3.heap.size+1) 8) (.slice Ae ents.length ce) 2) k=8):=hJ (fun k hk=>by have h1:=hp12.out;have h2:=hlt1.out;have h3:=hs3.out;rw[qqK (fun q hq=>by have:=(HAE.out q hq).1;omega),qah (by omega),qah (by omega)];exact HC8.out _ (by simp;omega))
     have hcv8:Hid ((re (qai (qai col w3.heap.size 1) (w3.heap.size+1) 8) (.slice Ae ents.length ce) 2) (w.heap.size+1)=8):=hJ (hRe.out _ (Nat.le_refl _))
     have BRE:=hJ (S6.out.bis BR5.out (by rw[hcv8.out];simp))
     have XE:Hid (Ext w w6):=hJ (Below.trans X05.out (S6.out.below.mono (by omega)))
     have CE:=hJ hc6
     have HCO:Hid (∀k,k<w.heap.size→col6 k=8):=hJ (fun k hk=>(S6.out.hue _ (by have:=X05.out.size;omega)).trans (hRe.out _ (by omega)))
     have hc8E:Hid (col6 (w.heap.size+1)=8):=hJ ((S6.out.hue _ BR5.out.lt).trans hcv8.out)
     have hne1:w3.heap.size≠w.heap.size+1:=by have h1:=hp12.out;have h2:=hlt1.out;have h3:=hs3.out;omega
     have q0:=CE.out.cell 0;have q1:=CE.out.cell 1;have q2:=CE.out.cell 2;have q3:=CE.out.cell 3;have q4:=CE.out.cell 4;have q5:=CE.out.cell 5;have q6:=CE.out.cell 6;have q7:=CE.out.cell 7;have q8:=CE.out.cell 8;have q9:=CE.out.cell 9;have q10:=CE.out.cell 10
     have HR2:Hid ((qal b.st fr frame).2=0):=hJ (by rw[HRG.out])
     clear hc6;obtain⟨⟨self,base,stable,sent,Av,cv,vs,Al,cl,log,Ap,cp,pend,Am,cm,marks,Af,cf,fls⟩,Ak,ck,pk,Ad,cd,dl⟩:=m6
     go_wp2;obtain⟨wE,rfl⟩:∃x,x=w6:=⟨_,rfl⟩
     obtain⟨colE,rfl⟩:∃x,x=col6:=⟨_,rfl⟩
     replace q0:wE.cell? (Pw w3 0)=some (Jq self):=q0
     replace q1:wE.cell? (Pw w3 1)=some (.slice Av vs.length cv):=q1
     replace q2:wE.cell? (Pw w3 2)=some (Jq base):=q2
     replace q3:wE.cell? (Pw w3 3)=some (.slice Al log.length cl):=q3
     replace q4:wE.cell? (Pw w3 4)=some (Jq stable):=q4
     replace q5:wE.cell? (Pw w3 5)=some (Jq sent):=q5
     replace q6:wE.cell? (Pw w3 6)=some (.slice Ap pend.length cp):=q6
     replace q7:wE.cell? (Pw w3 7)=some (.slice Am marks.length cm):=q7
     replace q8:wE.cell? (Pw w3 8)=some (.slice Af fls.length cf):=q8
     replace q9:wE.cell? (Pw w3 9)=some (.slice Ak pk.length ck):=q9
     replace q10:wE.cell? (Pw w3 10)=some (.slice Ad dl.length cd):=q10
     obtain⟨y0,y1,y2,y3,y4,y5,y6,y7,y8⟩:=qbC BRE.out
     obtain⟨z0,z1,z2,z3,z4,z5,z6,z7,z8⟩:=BRE.out.free9
     refine qac 16 (fun w'=>w'.cell? (Pw w3 0)=some (Jq self)∧w'.cell? (Pw w3 1)=some (.slice Av vs.length cv)∧w'.cell? (Pw w3 2)=some (Jq base)∧w'.cell? (Pw w3 3)=some (.slice Al log.length cl)∧w'.cell? (Pw w3 4)=some (Jq stable)∧w'.cell? (Pw w3 5)=some (Jq sent)∧w'.cell? (Pw w3 6)=some (.slice Ap pend.length cp)∧w'.cell? (Pw w3 7)=some (.slice Am marks.length cm)∧w'.cell? (Pw w3 8)=some (.slice Af fls.length cf)∧w'.cell? (Pw w3 9)=some (.slice Ak pk.length ck)∧w'.cell? (Pw w3 10)=some (.slice Ad dl.length cd)) (by kernel_rfl) ⟨by simpa using q0,by simpa using q1,by simpa using q2,by simpa using q3,by simpa using q4,by simpa using q5,by simpa using q6,by simpa using q7,by simpa using q8,by simpa using q9,by simpa using q10⟩ (fun hHeld=>?_)
     refine E_t 0 54 ?_;refine E_t 1 55 ?_;refine E_t 2 56 ?_;refine E_t 3 57 ?_;refine E_t 4 58 ?_;refine E_t 5 59 ?_;refine E_t 6 60 ?_;refine E_t 7 61 ?_;refine E_t 8 62 ?_;refine E_t 9 63 ?_;refine E_t 10 64 ?_;refine E_t 11 65 ?_;refine E_r 12 none fun K hK=>?_
     go_simp;clear hHeld;refine hK.out _ _ ⟨(qaV hne1).trans q0,(qaV hne1).trans q1,(qaV hne1).trans q2,(qaV hne1).trans q3,(qaV hne1).trans q4,(qaV hne1).trans q5,(qaV hne1).trans q6,(qaV hne1).trans q7,(qaV hne1).trans q8,(qaV hne1).trans q9,(qaV hne1).trans q10⟩ (fun hHeld=>?_)
     clear hK K;try simp only[Act.put,aP1,aP2,aP3]
     refine E_t 13 7 ?_;refine E_t 14 8 ?_;refine E_t 15 9 ?_;refine qaE (by kernel_rfl) (by rfl) ?_
     (try go_wp2)
     have BF:Hid (BIs (((((((((wE.setCell (Pv w 0) (Jq self)).setCell (Pv w 1) (.slice Av vs.length cv)).setCell (Pv w 2) (Jq base)).setCell (Pv w 3) (.slice Al log.length cl)).setCell (Pv w 4) (Jq stable)).setCell (Pv w 5) (Jq sent)).setCell (Pv w 6) (.slice Ap pend.length cp)).setCell (Pv w 7) (.slice Am marks.length cm)).setCell (Pv w 8) (.slice Af fls.length cf)).drew (w.heap.size+1) #[Jq self,.slice Av vs.length cv,Jq base,.slice Al log.length cl,Jq stable,Jq sent,.slice Ap pend.length cp,.slice Am marks.length cm,.slice Af fls.length cf] 28):=hJ ((qaJ BRE.out).ext Ext.drew1)
     have XFF:Hid (Ext w (((((((((wE.setCell (Pv w 0) (Jq self)).setCell (Pv w 1) (.slice Av vs.length cv)).setCell (Pv w 2) (Jq base)).setCell (Pv w 3) (.slice Al log.length cl)).setCell (Pv w 4) (Jq stable)).setCell (Pv w 5) (Jq sent)).setCell (Pv w 6) (.slice Ap pend.length cp)).setCell (Pv w 7) (.slice Am marks.length cm)).setCell (Pv w 8) (.slice Af fls.length cf)).drew):=hJ ((qak.ext XE.out (by omega)).trans Ext.drew1)
     have SF:Hid (Stp w.heap.size [8] colE wE colE (((((((((wE.setCell (Pv w 0) (Jq self)).setCell (Pv w 1) (.slice Av vs.length cv)).setCell (Pv w 2) (Jq base)).setCell (Pv w 3) (.slice Al log.length cl)).setCell (Pv w 4) (Jq stable)).setCell (Pv w 5) (Jq sent)).setCell (Pv w 6) (.slice Ap pend.length cp)).setCell (Pv w 7) (.slice Am marks.length cm)).setCell (Pv w 8) (.slice Af fls.length cf)).drew):=hJ ((Stp.wrote qak (by omega) (by have:=XE.out.size;omega) (by rw[hc8E.out];simp)).trans (Stp.ext' (by rw[show ((((((((((wE.setCell (Pv w 0) (Jq self)).setCell (Pv w 1) (.slice Av vs.length cv)).setCell (Pv w 2) (Jq base)).setCell (Pv w 3) (.slice Al log.length cl)).setCell (Pv w 4) (Jq stable)).setCell (Pv w 5) (Jq sent)).setCell (Pv w 6) (.slice Ap pend.length cp)).setCell (Pv w 7) (.slice Am marks.length cm)).setCell (Pv w 8) (.slice Af fls.length cf))).heap.size=wE.heap.size by simp[World.setCell]];have:=XE.out.size;omega) Ext.drew1))
     generalize (((((((((wE.setCell (Pv w 0) (Jq self)).setCell (Pv w 1) (.slice Av vs.length cv)).setCell (Pv w 2) (Jq base)).setCell (Pv w 3) (.slice Al log.length cl)).setCell (Pv w 4) (Jq stable)).setCell (Pv w 5) (Jq sent)).setCell (Pv w 6) (.slice Ap pend.length cp)).setCell (Pv w 7) (.slice Am marks.length cm)).setCell (Pv w 8) (.slice Af fls.length cf)).drew=W at *
     obtain⟨e0,e1,e2,e3,e4,e5,e6,e7,e8⟩:=qbC BF.out
     refine bodyPost_ret (v:=.tuple #[.agg #[Jq self,.slice Av vs.length cv,Jq base,.slice Al log.length cl,Jq stable,Jq sent,.slice Ap pend.length cp,.slice Am marks.length cm,.slice Af fls.length cf],.slice Ak pk.length ck,.slice Ad dl.length cd,Jq 0]) (by simp[results,Tryz.results16,go_sem,e0,e1,e2,e3,e4,e5,e6,e7,e8]) rfl ?_
     rw[HR2.out]
     exact qoP CE.out SF.out hME.out XFF.out (fun k hk=>HCO.out k hk)
theorem qqp {P : Prop} (h : P := by
 clear y0 y1 y2 y3 y4 y5 y6 y7 y8 z0 z1 z2 z3 z4 z5 z6 z7 z8;clear hHeld;refine hK.out _ _ ⟨(qaB C.out).2.1,qaa C.out HBM.out 0 rfl,qaa C.out HBM.out 1 rfl,qaa C.out HBM.out 2 rfl,qaa C.out HBM.out 3 rfl,qaa C.out HBM.out 4 rfl,qaa C.out HBM.out 5 rfl,qaa C.out HBM.out 6 rfl,qaa C.out HBM.out 7 rfl,qaa C.out HBM.out 8 rfl,B_f.out.cell 0,B_f.out.cell 2⟩ (fun hHeld=>?_)
 clear hK K;try simp only[Act.put,aP1,aP2,aP3]
 refine E_t 19 8 ?_;refine E_t 20 9 ?_;refine E_t 21 10 ?_;refine qaE (by kernel_rfl) (by rfl) ?_
 go_wp2;go_meet
 exact⟨_,mr,col6,rfl,rfl,rfl,rfl,B_s,K_s,C,G,BL⟩) : P := h
section
theorem qo3{w:Wd}{i:Nat}{s:St}{f:FyM}(h1:qhH w f.to_=(i:Int))(h2:qeO w i=false)(h3:qeM w i=s)(h:(qc6 w f.v).2=true):(qal s f.fr f.bs).2=0∧(qc6 w f.v).1=qh7 (qiI w i (qal s f.fr f.bs).1.s) i (qal s f.fr f.bs).1.pk (qal s f.fr f.bs).1.dl:=by
 have e:qc6 w f.v=if (qal s f.fr f.bs).2≠0 then (w,false) else (qh7 (qiI w i (qal s f.fr f.bs).1.s) i (qal s f.fr f.bs).1.pk (qal s f.fr f.bs).1.dl,true):=by
  unfold qc6
  rw[show f.v.2.1=f.to_ from rfl,h1]
  simp only[Int.toNat_natCast,h2,h3]
  rw[if_neg (by simp)];rfl
 rw[e] at h⊢
 split at h
 ·cases h
 ·next hn=>
  rw[if_neg hn]
  exact⟨by simpa using hn,rfl⟩
end
set_option maxHeartbeats 2000000 in
theorem qj8(m:WM)(B:Nat)(col:Nat→Nat)(p k:Nat)(w:World)(h:WS w B col p m)(hk:k<m.fly.length)(hn:m.fly.length≤400)(hm:m.mem.length≤1000)(hd:m.down.length=m.mem.length)(ht:m.told.length=m.mem.length)(htl:∀t∈m.told,t.l.length≤100000)
  (hfl:∀f∈m.fly,f.bs.length≤1000000) (hok:(qc6 m.wd (qcw m.wd k)).2=true) (hr:(qal (qeM m.wd (qhH m.wd (qcw m.wd k).2.1).toNat) (qcw m.wd k).1 (qcw m.wd k).2.2).1.pk.length≤100000∧(qal (qeM m.wd (qhH m.wd (qcw m.wd k).2.1).toNat) (qcw m.wd k).1 (qcw m.wd k).2.2).1.dl.length≤100000) :
  Calls Tryz.prog 103 #[.pointer (some (Pq p 0)),Jq (k:Int)] w (qjK B p w (.bool true) (qc6 m.wd (qcw m.wd k)).1):=by
 obtain⟨Av,cv,vs,Am,cm,mem,Ad,cd,down,At,ct,told,As,cs,sent,Af,cf,fly⟩:=m
 simp only at hk hn hm hd ht htl hfl
 obtain⟨gf,f,hAf,hf,cf0,cf1,cf2⟩:=qs4 h.fly hk
 simp only at hAf hf
 subst hAf
 have hfv:qcw (⟨Av,cv,vs,Am,cm,mem,Ad,cd,down,At,ct,told,As,cs,sent,some (Pq gf 0),cf,fly⟩:WM).wd k=f.v:=by unfold qcw WM.wd;simp only[List.getElem?_map,hf];rfl
 rw[hfv] at hok hr⊢
 have hfb:=hfl f (List.mem_of_getElem? hf)
 have HFC:=hJ (h.fly.inn f (List.mem_of_getElem? hf)).1.1
 have HFM:=hJ hf
 clear hfv hfl hf;have XX:Hid (Ext w (w.alloc (.cells #[Jq f.fr,Jq f.to_,.slice f.A f.bs.length f.c] 137))):=hJ (Ext.new _ _)
 have B_f:Hid (BIs (w.alloc (.cells #[Jq f.fr,Jq f.to_,.slice f.A f.bs.length f.c] 137)) w.heap.size #[Jq f.fr,Jq f.to_,.slice f.A f.bs.length f.c] 137):=hJ (BIs.new _ _ _)
 have K_f:Hid (qdg col w.heap.size 8 w.heap.size=8):=hJ qch
 have C:=hJ (h.keepB (Stp.ext (cs:=[]) h.Bsz XX.out (fun k hk=>if_neg (by omega)):Stp B [] col w (qdg col w.heap.size 8) (w.alloc (.cells #[Jq f.fr,Jq f.to_,.slice f.A f.bs.length f.c] 137))) (by decide) (qoD h.z (by simp)))
 have BL:Hid (Below B w (w.alloc (.cells #[Jq f.fr,Jq f.to_,.slice f.A f.bs.length f.c] 137))):=hJ (XX.out.mono h.Bsz)
 have q5:w.cell? (Pq p 5)=some (.slice (some (Pq gf 0)) fly.length cf):=(qaB h).2.2.2.2.2
 clear h XX;go_enter Tryz.func103,Tryz.ntmps103
 go_upto_region 2 with fail
 generalize (w.alloc (.cells #[Jq f.fr,Jq f.to_,.slice f.A f.bs.length f.c] 137))=u1 at *
 generalize qdg col w.heap.size 8=col1 at *
 generalize w.heap.size=r_f at *
 clear q5 cf0 cf1 cf2;have q1:u1.cell? (Pq r_f 1)=some (Jq f.to_):=B_f.out.cell 1
 rcases qgt f.to_ (mem.map BM.st) 0 with ⟨hix,_⟩|⟨i,s,hix,hi,hs9⟩
 ·have HI:Hid (qhH (⟨Av,cv,vs,Am,cm,mem,Ad,cd,down,At,ct,told,As,cs,sent,some (Pq gf 0),cf,fly⟩:WM).wd f.to_ = -1):=hJ hix
  clear hix;go_wp2_with fail
  go_at_call 33;refine(qcs ⟨Av,cv,vs,Am,cm,mem,Ad,cd,down,At,ct,told,As,cs,sent,some (Pq gf 0),cf,fly⟩ B col1 p f.to_ _ C.out (by simp only;omega)).mono ?_
  rintro en wx ⟨rfl,rfl⟩
  rw[HI.out]
  go_wp2;go_ret
  refine⟨_,col1,rfl,C.out,?_,BL.out⟩
  unfold qc6
  rw[show f.v.2.1=f.to_ from rfl,HI.out]
  rfl
 have HI:Hid (qhH (⟨Av,cv,vs,Am,cm,mem,Ad,cd,down,At,ct,told,As,cs,sent,some (Pq gf 0),cf,fly⟩:WM).wd f.to_=(i:Int)):=hJ (by rw[Nat.zero_add] at hix;exact hix)
 have him:i<mem.length:=by have:=(List.getElem?_eq_some_iff.1 hi).1;simpa using this
 clear hix hi hs9 s;obtain⟨gm,b,hAm,_,_,_,hb,e0,e1,e2,e3,e4,e5,e6,e7,e8⟩:=qf3 C.out.mem him
 simp only at hAm hb
 subst hAm
 have HMW:Hid (qeM (⟨Av,cv,vs,some (Pq gm 0),cm,mem,Ad,cd,down,At,ct,told,As,cs,sent,some (Pq gf 0),cf,fly⟩:WM).wd i=b.st):=hJ (qe7 hb)
 obtain⟨gd,d,hAd,hdn,cd0,_⟩:=qjU C.out.down (i:=i) (by simp only;omega)
 simp only at hAd hdn
 subst hAd
 have HDW:Hid (qeO (⟨Av,cv,vs,some (Pq gm 0),cm,mem,some (Pq gd 0),cd,down,At,ct,told,As,cs,sent,some (Pq gf 0),cf,fly⟩:WM).wd i=d):=hJ (qk9 hdn)
 obtain⟨y0,y1,y2,y3,y4,y5⟩:=qaB C.out
 clear y0 y3 y4 y5;simp only at y1 y2
 have HBM:=hJ hb
 clear hb hdn;cases d with
 | true=>
  go_wp2_with (first|(go_at_call 33;refine(qcs ⟨Av,cv,vs,some (Pq gm 0),cm,mem,some (Pq gd 0),cd,down,At,ct,told,As,cs,sent,some (Pq gf 0),cf,fly⟩ B col1 p f.to_ _ C.out (by simp only;omega)).mono ?_;rintro en wx ⟨rfl,rfl⟩;rw[HI.out]))
  go_ret
  refine⟨_,col1,rfl,C.out,?_,BL.out⟩
  unfold qc6
  simp only[show f.v.2.1=f.to_ from rfl,HI.out,Int.toNat_natCast,HDW.out,or_true,if_true]
 | false=>
  have HW:Hid ((qal b.st f.fr f.bs).2=0∧(qc6 (⟨Av,cv,vs,some (Pq gm 0),cm,mem,some (Pq gd 0),cd,down,At,ct,told,As,cs,sent,some (Pq gf 0),cf,fly⟩:WM).wd f.v).1=qh7 (qiI (⟨Av,cv,vs,some (Pq gm 0),cm,mem,some (Pq gd 0),cd,down,At,ct,told,As,cs,sent,some (Pq gf 0),cf,fly⟩:WM).wd i (qal b.st f.fr f.bs).1.s) i (qal b.st f.fr f.bs).1.pk (qal b.st f.fr f.bs).1.dl):=hJ (qo3 HI.out HDW.out HMW.out hok)
  have HRL:Hid ((qal b.st f.fr f.bs).1.pk.length≤100000∧(qal b.st f.fr f.bs).1.dl.length≤100000):=hJ (by have:=hr;rw[show f.v.2.1=f.to_ from rfl,HI.out,Int.toNat_natCast,HMW.out] at this;exact this)
  clear hok hr;go_upto_region 5 with (first|(go_at_call 33;refine(qcs ⟨Av,cv,vs,some (Pq gm 0),cm,mem,some (Pq gd 0),cd,down,At,ct,told,As,cs,sent,some (Pq gf 0),cf,fly⟩ B col1 p f.to_ _ C.out (by simp only;omega)).mono ?_;rintro en wx ⟨rfl,rfl⟩;rw[HI.out]))
  clear e0 e1 e2 e3 e4 e5 e6 e7 e8 cd0 y1 y2 q1;go_cut [7,8,9,10] (fun s7 s8 s9 s10 wx=>∃(rs:Nat) (mr:CM) (colx:Nat→Nat),s7=.pointer (some (Pq rs 0))∧s8=.slice mr.Ak mr.pk.length mr.ck∧s9=.slice mr.Ad mr.dl.length mr.cd∧s10=Jq (qal b.st f.fr f.bs).2∧Hid (BIs wx rs mr.b.cells 28)∧Hid (colx rs=9)∧Hid (WS wx B colx p ⟨Av,cv,vs,some (Pq gm 0),cm,mem,some (Pq gd 0),cd,down,At,ct,told,As,cs,sent,some (Pq gf 0),cf,fly⟩)∧Hid (GotC wx colx (qal b.st f.fr f.bs).1 mr)∧Hid (Below B w wx))
  case first=>
   refine qac 22 (fun w'=>Cq w' p 1 (.slice (some (Pq gm 0)) mem.length cm)∧Cq w' gm (i*9) (Jq b.self)∧Cq w' gm (i*9+1) (.slice b.Av b.vs.length b.cv)∧Cq w' gm (i*9+2) (Jq b.base)∧Cq w' gm (i*9+3) (.slice b.Al b.log.length b.cl)∧Cq w' gm (i*9+4) (Jq b.stable)∧Cq w' gm (i*9+5) (Jq b.sent)∧Cq w' gm (i*9+6) (.slice b.Ap b.pend.length b.cp)∧Cq w' gm (i*9+7) (.slice b.Am b.marks.length b.cm)∧Cq w' gm (i*9+8) (.slice b.Af b.fls.length b.cf)∧Cq w' r_f 0 (Jq f.fr)∧Cq w' r_f 2 (.slice f.A f.bs.length f.c)) (by kernel_rfl) ⟨(qaB (C.out.ext Ext.drew1)).2.1,qaa (C.out.ext Ext.drew1) HBM.out 0 rfl,qaa (C.out.ext Ext.drew1) HBM.out 1 rfl,qaa (C.out.ext Ext.drew1) HBM.out 2 rfl,qaa (C.out.ext Ext.drew1) HBM.out 3 rfl,qaa (C.out.ext Ext.drew1) HBM.out 4 rfl,qaa (C.out.ext Ext.drew1) HBM.out 5 rfl,qaa (C.out.ext Ext.drew1) HBM.out 6 rfl,qaa (C.out.ext Ext.drew1) HBM.out 7 rfl,qaa (C.out.ext Ext.drew1) HBM.out 8 rfl,(B_f.out.ext Ext.drew1).cell 0,(B_f.out.ext Ext.drew1).cell 2⟩ (fun hHeld=>?_)
   have XD:Hid (Ext u1 u1.drew):=hJ Ext.drew1
   have ST:=hJ (Stp.ext' (B:=B) (cs:=[]) (col:=col1) C.out.Bsz XD.out)
   replace BL:=hJ (BL.out.trans ST.out.below)
   replace C:=hJ (C.out.keepB ST.out (by decide) (fun k hk=>C.out.z k (Nat.le_trans (XD.out).size hk)))
   replace K_f:=hJ ((ST.out.hue _ B_f.out.lt).trans K_f.out)
   replace B_f:=hJ (ST.out.bis B_f.out (by rw[←ST.out.hue _ B_f.out.lt,K_f.out];decide))
   clear ST;clear XD;generalize u1.drew=u2 at *
   refine E_t 0 34 ?_;refine E_t 1 35 ?_;refine E_t 2 36 ?_;refine E_t 3 37 ?_;refine E_t 4 38 ?_;refine E_t 5 39 ?_;refine E_t 6 40 ?_;refine E_t 7 41 ?_;refine E_t 8 42 ?_;refine E_t 9 43 ?_;refine E_t 10 44 ?_;refine qc3 [11,17] (by kernel_rfl) (by simp) ?_
   refine(AllE.cons (o:=⟨some 45,_,_,_,_,_⟩) rfl (fun K hK=>?_) (AllE.cons (o:=⟨some 7,_,_,_,_,_⟩) rfl (fun K hK=>?_) AllE.nil))
   ·go_simp
    go_at_call 16;refine(qeY b f.fr f.A f.c f.bs _ (C.out.reads HBM.out).1 (C.out.reads HBM.out).2 ((C.out.fly.inn f (List.mem_of_getElem? HFM.out)).2 (f.A,qad f.bs) (by simp[qgj])).1 HFC.out hfb).mono ?_
    rintro en w3 ⟨mr,rfl,hcs,hrd,hft,hpk,hdl,hx,hnw,hnd,hpn⟩
    have G:=hJ (qnV hcs hrd hft hpk hdl hnw hnd hpn C.out.z)
    clear hcs hrd hft hpk hdl hnw hnd hpn;have ST:=hJ (Stp.ext' (B:=B) (cs:=[]) (col:=col1) C.out.Bsz hx)
    replace BL:=hJ (BL.out.trans ST.out.below)
    replace C:=hJ (C.out.keepB ST.out (by decide) (fun k hk=>C.out.z k (Nat.le_trans (hx).size hk)))
    replace K_f:=hJ ((ST.out.hue _ B_f.out.lt).trans K_f.out)
    replace B_f:=hJ (ST.out.bis B_f.out (by rw[←ST.out.hue _ B_f.out.lt,K_f.out];decide))
    clear ST;clear hx;clear hHeld;refine hK.out _ _ ⟨(qaB C.out).2.1,qaa C.out HBM.out 0 rfl,qaa C.out HBM.out 1 rfl,qaa C.out HBM.out 2 rfl,qaa C.out HBM.out 3 rfl,qaa C.out HBM.out 4 rfl,qaa C.out HBM.out 5 rfl,qaa C.out HBM.out 6 rfl,qaa C.out HBM.out 7 rfl,qaa C.out HBM.out 8 rfl,B_f.out.cell 0,B_f.out.cell 2⟩ (fun hHeld=>?_)
    clear hK K;try simp only[Act.put,aP1,aP2,aP3]
    refine E_t 12 33 ?_;refine E_t 13 46 ?_;refine E_t 14 47 ?_;refine E_t 15 48 ?_;refine E_t 16 49 ?_;refine E_r 17 (some 7) fun K hK=>?_
    go_simp;have ST:Hid (Stp B [] col1 w3 (qdg col1 w3.heap.size 9) (w3.alloc (.cells Yq 28))):=hJ (Stp.newBox C.out.Bsz)
    have B_s:Hid (BIs (w3.alloc (.cells Yq 28)) w3.heap.size Yq 28):=hJ (BIs.new _ _ _)
    have K_s:Hid ((qdg col1 w3.heap.size 9) w3.heap.size=9):=hJ qch
    have HBr:Hid (B≤w3.heap.size):=hJ C.out.Bsz
    replace BL:=hJ (BL.out.trans ST.out.below)
    replace C:=hJ (C.out.keepB ST.out (by decide) (qej C.out.z))
    replace K_f:=hJ ((ST.out.hue _ B_f.out.lt).trans K_f.out)
    replace B_f:=hJ (ST.out.bis B_f.out (by rw[←ST.out.hue _ B_f.out.lt,K_f.out];decide))
    replace G:=hJ (G.out.keep ST.out (by decide))
    clear ST;generalize (qdg col1 w3.heap.size 9)=col6 at *
    generalize (w3.alloc (.cells Yq 28))=u6 at *
    generalize w3.heap.size=r_s at *
    have Q_s:=HBr
    clear HBr;clear hHeld;refine hK.out _ _ ⟨(qaB C.out).2.1,qaa C.out HBM.out 0 rfl,qaa C.out HBM.out 1 rfl,qaa C.out HBM.out 2 rfl,qaa C.out HBM.out 3 rfl,qaa C.out HBM.out 4 rfl,qaa C.out HBM.out 5 rfl,qaa C.out HBM.out 6 rfl,qaa C.out HBM.out 7 rfl,qaa C.out HBM.out 8 rfl,B_f.out.cell 0,B_f.out.cell 2⟩ (fun hHeld=>?_)
    clear hK K;try simp only[Act.put,aP1,aP2,aP3]
    refine E_r 18 none fun K hK=>?_
    obtain⟨y0,y1,y2,y3,y4,y5,y6,y7,y8⟩:=qbC B_s.out
    obtain⟨z0,z1,z2,z3,z4,z5,z6,z7,z8⟩:=B_s.out.free9
    go_simp;have ST:Hid (Stp B [9] col6 u6 col6 (((((((((u6.setCell (Pq r_s 0) (Jq mr.b.self)).setCell (Pq r_s 1) (.slice mr.b.Av mr.b.vs.length mr.b.cv)).setCell (Pq r_s 2) (Jq mr.b.base)).setCell (Pq r_s 3) (.slice mr.b.Al mr.b.log.length mr.b.cl)).setCell (Pq r_s 4) (Jq mr.b.stable)).setCell (Pq r_s 5) (Jq mr.b.sent)).setCell (Pq r_s 6) (.slice mr.b.Ap mr.b.pend.length mr.b.cp)).setCell (Pq r_s 7) (.slice mr.b.Am mr.b.marks.length mr.b.cm)).setCell (Pq r_s 8) (.slice mr.b.Af mr.b.fls.length mr.b.cf))):=hJ (Stp.wrote qak Q_s.out C.out.Bsz (by rw[K_s.out];decide))
    have BN:Hid (BIs (((((((((u6.setCell (Pq r_s 0) (Jq mr.b.self)).setCell (Pq r_s 1) (.slice mr.b.Av mr.b.vs.length mr.b.cv)).setCell (Pq r_s 2) (Jq mr.b.base)).setCell (Pq r_s 3) (.slice mr.b.Al mr.b.log.length mr.b.cl)).setCell (Pq r_s 4) (Jq mr.b.stable)).setCell (Pq r_s 5) (Jq mr.b.sent)).setCell (Pq r_s 6) (.slice mr.b.Ap mr.b.pend.length mr.b.cp)).setCell (Pq r_s 7) (.slice mr.b.Am mr.b.marks.length mr.b.cm)).setCell (Pq r_s 8) (.slice mr.b.Af mr.b.fls.length mr.b.cf)) r_s mr.b.cells 28):=hJ (qaJ B_s.out)
    clear B_s;have B_s:=BN
    clear BN;replace BL:=hJ (BL.out.trans ST.out.below)
    replace C:=hJ (C.out.keepB ST.out (by decide) (fun k hk=>C.out.z k (Nat.le_trans qak.size hk)))
    replace K_f:=hJ ((ST.out.hue _ B_f.out.lt).trans K_f.out)
    replace B_f:=hJ (ST.out.bis B_f.out (by rw[←ST.out.hue _ B_f.out.lt,K_f.out];decide))
    replace G:=hJ (G.out.keep ST.out (by decide))
    clear ST;generalize (((((((((u6.setCell (Pq r_s 0) (Jq mr.b.self)).setCell (Pq r_s 1) (.slice mr.b.Av mr.b.vs.length mr.b.cv)).setCell (Pq r_s 2) (Jq mr.b.base)).setCell (Pq r_s 3) (.slice mr.b.Al mr.b.log.length mr.b.cl)).setCell (Pq r_s 4) (Jq mr.b.stable)).setCell (Pq r_s 5) (Jq mr.b.sent)).setCell (Pq r_s 6) (.slice mr.b.Ap mr.b.pend.length mr.b.cp)).setCell (Pq r_s 7) (.slice mr.b.Am mr.b.marks.length mr.b.cm)).setCell (Pq r_s 8) (.slice mr.b.Af mr.b.fls.length mr.b.cf))=u7 at *
    exact qqp
   ·go_simp
    have ST:Hid (Stp B [] col1 u2 (qdg col1 u2.heap.size 9) (u2.alloc (.cells Yq 28))):=hJ (Stp.newBox C.out.Bsz)
    have B_s:Hid (BIs (u2.alloc (.cells Yq 28)) u2.heap.size Yq 28):=hJ (BIs.new _ _ _)
    have K_s:Hid ((qdg col1 u2.heap.size 9) u2.heap.size=9):=hJ qch
    have HBr:Hid (B≤u2.heap.size):=hJ C.out.Bsz
    replace BL:=hJ (BL.out.trans ST.out.below)
    replace C:=hJ (C.out.keepB ST.out (by decide) (qej C.out.z))
    replace K_f:=hJ ((ST.out.hue _ B_f.out.lt).trans K_f.out)
    replace B_f:=hJ (ST.out.bis B_f.out (by rw[←ST.out.hue _ B_f.out.lt,K_f.out];decide))
    clear ST;generalize (qdg col1 u2.heap.size 9)=col6 at *
    generalize (u2.alloc (.cells Yq 28))=u6 at *
    generalize u2.heap.size=r_s at *
    have Q_s:=HBr
    clear HBr;clear hHeld;refine hK.out _ _ ⟨(qaB C.out).2.1,qaa C.out HBM.out 0 rfl,qaa C.out HBM.out 1 rfl,qaa C.out HBM.out 2 rfl,qaa C.out HBM.out 3 rfl,qaa C.out HBM.out 4 rfl,qaa C.out HBM.out 5 rfl,qaa C.out HBM.out 6 rfl,qaa C.out HBM.out 7 rfl,qaa C.out HBM.out 8 rfl,B_f.out.cell 0,B_f.out.cell 2⟩ (fun hHeld=>?_)
    clear hK K;try simp only[Act.put,aP1,aP2,aP3]
    refine E_r 11 (some 45) fun K hK=>?_
    go_simp;go_at_call 16;refine(qeY b f.fr f.A f.c f.bs _ (C.out.reads HBM.out).1 (C.out.reads HBM.out).2 ((C.out.fly.inn f (List.mem_of_getElem? HFM.out)).2 (f.A,qad f.bs) (by simp[qgj])).1 HFC.out hfb).mono ?_
    rintro en w3 ⟨mr,rfl,hcs,hrd,hft,hpk,hdl,hx,hnw,hnd,hpn⟩
    have G:=hJ (qnV hcs hrd hft hpk hdl hnw hnd hpn C.out.z)
    clear hcs hrd hft hpk hdl hnw hnd hpn;have ST:=hJ (Stp.ext' (B:=B) (cs:=[]) (col:=col6) C.out.Bsz hx)
    replace BL:=hJ (BL.out.trans ST.out.below)
    replace C:=hJ (C.out.keepB ST.out (by decide) (fun k hk=>C.out.z k (Nat.le_trans (hx).size hk)))
    replace K_f:=hJ ((ST.out.hue _ B_f.out.lt).trans K_f.out)
    replace B_f:=hJ (ST.out.bis B_f.out (by rw[←ST.out.hue _ B_f.out.lt,K_f.out];decide))
    replace K_s:=hJ ((ST.out.hue _ B_s.out.lt).trans K_s.out)
    replace B_s:=hJ (ST.out.bis B_s.out (by rw[←ST.out.hue _ B_s.out.lt,K_s.out];decide))
    clear ST;clear hx;clear hHeld;refine hK.out _ _ ⟨(qaB C.out).2.1,qaa C.out HBM.out 0 rfl,qaa C.out HBM.out 1 rfl,qaa C.out HBM.out 2 rfl,qaa C.out HBM.out 3 rfl,qaa C.out HBM.out 4 rfl,qaa C.out HBM.out 5 rfl,qaa C.out HBM.out 6 rfl,qaa C.out HBM.out 7 rfl,qaa C.out HBM.out 8 rfl,B_f.out.cell 0,B_f.out.cell 2⟩ (fun hHeld=>?_)
    clear hK K;try simp only[Act.put,aP1,aP2,aP3]
    refine E_t 12 33 ?_;refine E_t 13 46 ?_;refine E_t 14 47 ?_;refine E_t 15 48 ?_;refine E_t 16 49 ?_;refine E_r 18 none fun K hK=>?_
    obtain⟨y0,y1,y2,y3,y4,y5,y6,y7,y8⟩:=qbC B_s.out
    obtain⟨z0,z1,z2,z3,z4,z5,z6,z7,z8⟩:=B_s.out.free9
    go_simp;have ST:Hid (Stp B [9] col6 w3 col6 (((((((((w3.setCell (Pq r_s 0) (Jq mr.b.self)).setCell (Pq r_s 1) (.slice mr.b.Av mr.b.vs.length mr.b.cv)).setCell (Pq r_s 2) (Jq mr.b.base)).setCell (Pq r_s 3) (.slice mr.b.Al mr.b.log.length mr.b.cl)).setCell (Pq r_s 4) (Jq mr.b.stable)).setCell (Pq r_s 5) (Jq mr.b.sent)).setCell (Pq r_s 6) (.slice mr.b.Ap mr.b.pend.length mr.b.cp)).setCell (Pq r_s 7) (.slice mr.b.Am mr.b.marks.length mr.b.cm)).setCell (Pq r_s 8) (.slice mr.b.Af mr.b.fls.length mr.b.cf))):=hJ (Stp.wrote qak Q_s.out C.out.Bsz (by rw[K_s.out];decide))
    have BN:Hid (BIs (((((((((w3.setCell (Pq r_s 0) (Jq mr.b.self)).setCell (Pq r_s 1) (.slice mr.b.Av mr.b.vs.length mr.b.cv)).setCell (Pq r_s 2) (Jq mr.b.base)).setCell (Pq r_s 3) (.slice mr.b.Al mr.b.log.length mr.b.cl)).setCell (Pq r_s 4) (Jq mr.b.stable)).setCell (Pq r_s 5) (Jq mr.b.sent)).setCell (Pq r_s 6) (.slice mr.b.Ap mr.b.pend.length mr.b.cp)).setCell (Pq r_s 7) (.slice mr.b.Am mr.b.marks.length mr.b.cm)).setCell (Pq r_s 8) (.slice mr.b.Af mr.b.fls.length mr.b.cf)) r_s mr.b.cells 28):=hJ (qaJ B_s.out)
    clear B_s;have B_s:=BN
    clear BN;replace BL:=hJ (BL.out.trans ST.out.below)
    replace C:=hJ (C.out.keepB ST.out (by decide) (fun k hk=>C.out.z k (Nat.le_trans qak.size hk)))
    replace K_f:=hJ ((ST.out.hue _ B_f.out.lt).trans K_f.out)
    replace B_f:=hJ (ST.out.bis B_f.out (by rw[←ST.out.hue _ B_f.out.lt,K_f.out];decide))
    replace G:=hJ (G.out.keep ST.out (by decide))
    clear ST;generalize (((((((((w3.setCell (Pq r_s 0) (Jq mr.b.self)).setCell (Pq r_s 1) (.slice mr.b.Av mr.b.vs.length mr.b.cv)).setCell (Pq r_s 2) (Jq mr.b.base)).setCell (Pq r_s 3) (.slice mr.b.Al mr.b.log.length mr.b.cl)).setCell (Pq r_s 4) (Jq mr.b.stable)).setCell (Pq r_s 5) (Jq mr.b.sent)).setCell (Pq r_s 6) (.slice mr.b.Ap mr.b.pend.length mr.b.cp)).setCell (Pq r_s 7) (.slice mr.b.Am mr.b.marks.length mr.b.cm)).setCell (Pq r_s 8) (.slice mr.b.Af mr.b.fls.length mr.b.cf))=u7 at *
    exact qqp
  case rest=>
   obtain⟨rs,mr,colx,rfl,rfl,rfl,rfl,BS,KS,CX,GX,BX⟩:=hcut
   rw[HW.out.1]
   clear C BL;go_upto_region 8 with fail
   refine qac 6 (fun w'=>Cq w' p 1 (.slice (some (Pq gm 0)) mem.length cm)∧Cq w' rs 0 (Jq mr.b.self)∧Cq w' rs 1 (.slice mr.b.Av mr.b.vs.length mr.b.cv)∧Cq w' rs 2 (Jq mr.b.base)∧Cq w' rs 3 (.slice mr.b.Al mr.b.log.length mr.b.cl)∧Cq w' rs 4 (Jq mr.b.stable)∧Cq w' rs 5 (Jq mr.b.sent)∧Cq w' rs 6 (.slice mr.b.Ap mr.b.pend.length mr.b.cp)∧Cq w' rs 7 (.slice mr.b.Am mr.b.marks.length mr.b.cm)∧Cq w' rs 8 (.slice mr.b.Af mr.b.fls.length mr.b.cf)) (by kernel_rfl) ⟨(qaB (CX.out.ext Ext.drew1)).2.1,(BS.out.ext Ext.drew1).cell 0,(BS.out.ext Ext.drew1).cell 1,(BS.out.ext Ext.drew1).cell 2,(BS.out.ext Ext.drew1).cell 3,(BS.out.ext Ext.drew1).cell 4,(BS.out.ext Ext.drew1).cell 5,(BS.out.ext Ext.drew1).cell 6,(BS.out.ext Ext.drew1).cell 7,(BS.out.ext Ext.drew1).cell 8⟩ (fun hHeld=>?_)
   have XD:Hid (Ext wc wc.drew):=hJ Ext.drew1
   replace BX:=hJ (BX.out.trans (XD.out.mono CX.out.Bsz))
   replace GX:=hJ (GX.out.keep (Stp.ext' (B:=B) (cs:=[]) CX.out.Bsz XD.out) (by decide))
   replace BS:=hJ (BS.out.ext XD.out)
   replace CX:=hJ (CX.out.ext XD.out)
   clear XD;generalize wc.drew=u8 at *
   refine E_t 0 52 ?_;refine E_t 1 53 ?_;refine E_t 2 54 ?_;refine E_t 3 55 ?_;refine E_t 4 56 ?_;refine E_t 5 57 ?_;refine qbc (by rfl) (by kernel_rfl) ?_
   obtain⟨k0,k1,k2,k3,k4,k5,k6,k7,k8⟩:u8.cell? (Pq gm (i*9))=some (Jq b.self)∧u8.cell? (Pq gm (i*9+1))=some (.slice b.Av b.vs.length b.cv)∧u8.cell? (Pq gm (i*9+2))=some (Jq b.base)∧u8.cell? (Pq gm (i*9+3))=some (.slice b.Al b.log.length b.cl)∧u8.cell? (Pq gm (i*9+4))=some (Jq b.stable)∧u8.cell? (Pq gm (i*9+5))=some (Jq b.sent)∧u8.cell? (Pq gm (i*9+6))=some (.slice b.Ap b.pend.length b.cp)∧u8.cell? (Pq gm (i*9+7))=some (.slice b.Am b.marks.length b.cm)∧u8.cell? (Pq gm (i*9+8))=some (.slice b.Af b.fls.length b.cf):=⟨qaa CX.out HBM.out 0 rfl,qaa CX.out HBM.out 1 rfl,qaa CX.out HBM.out 2 rfl,qaa CX.out HBM.out 3 rfl,qaa CX.out HBM.out 4 rfl,qaa CX.out HBM.out 5 rfl,qaa CX.out HBM.out 6 rfl,qaa CX.out HBM.out 7 rfl,qaa CX.out HBM.out 8 rfl⟩
   have fz:=qgq CX.out him
   go_upto_region 9 with fail
   obtain⟨ws9,st9⟩:=CX.out.put_mem (b:=mr.b) rfl him GX.out.rd
   have e9:qfS u8 gm (i*qb8.k) (qb8.f mr.b)=(((((((((u8.setCell (Pq gm (i*9)) (Jq mr.b.self)).setCell (Pq gm (i*9+1)) (.slice mr.b.Av mr.b.vs.length mr.b.cv)).setCell (Pq gm (i*9+2)) (Jq mr.b.base)).setCell (Pq gm (i*9+3)) (.slice mr.b.Al mr.b.log.length mr.b.cl)).setCell (Pq gm (i*9+4)) (Jq mr.b.stable)).setCell (Pq gm (i*9+5)) (Jq mr.b.sent)).setCell (Pq gm (i*9+6)) (.slice mr.b.Ap mr.b.pend.length mr.b.cp)).setCell (Pq gm (i*9+7)) (.slice mr.b.Am mr.b.marks.length mr.b.cm)).setCell (Pq gm (i*9+8)) (.slice mr.b.Af mr.b.fls.length mr.b.cf)):=rfl
   rw[e9] at ws9 st9
   clear e9 k0 k1 k2 k3 k4 k5 k6 k7 k8 fz;have C9:=hJ ws9;have G9:=hJ (GX.out.keep st9 (by decide));have BL9:=hJ (BX.out.trans st9.below)
   clear ws9 st9 CX GX BX BS KS;generalize (((((((((u8.setCell (Pq gm (i*9)) (Jq mr.b.self)).setCell (Pq gm (i*9+1)) (.slice mr.b.Av mr.b.vs.length mr.b.cv)).setCell (Pq gm (i*9+2)) (Jq mr.b.base)).setCell (Pq gm (i*9+3)) (.slice mr.b.Al mr.b.log.length mr.b.cl)).setCell (Pq gm (i*9+4)) (Jq mr.b.stable)).setCell (Pq gm (i*9+5)) (Jq mr.b.sent)).setCell (Pq gm (i*9+6)) (.slice mr.b.Ap mr.b.pend.length mr.b.cp)).setCell (Pq gm (i*9+7)) (.slice mr.b.Am mr.b.marks.length mr.b.cm)).setCell (Pq gm (i*9+8)) (.slice mr.b.Af mr.b.fls.length mr.b.cf))=u9 at *
   have HPL:Hid (mr.pk.length≤100000∧mr.dl.length≤100000):=hJ (by have h1:=HRL.out;have h2:=G9.out.len;omega)
   go_wp2_with (first|(go_at_call 99;refine(qlo ⟨Av,cv,vs,some (Pq gm 0),cm,mem.set i mr.b,some (Pq gd 0),cd,down,At,ct,told,As,cs,sent,some (Pq gf 0),cf,fly⟩ B colx p i mr.Ak mr.ck mr.pk mr.Ad mr.cd mr.dl _ C9.out (by simp only[List.length_set];exact him) (by simp only;omega) G9.out.pk G9.out.dl.1 (by simp only;omega) HPL.out.1 htl HPL.out.2).mono ?_;rintro en w10 ⟨m10,col10,rfl,ws10,hwd,bl10⟩;have C10:=hJ ws10;have HD10:=hJ hwd;have BL10:=hJ (BL9.out.trans bl10);clear ws10 hwd bl10))
   go_ret
   refine⟨m10,col10,rfl,C10.out,?_,BL10.out⟩
   rw[HD10.out,HW.out.2,←G9.out.cs]
   simp only[WM.wd,qiI,List.map_set]
   rfl
end Go.Proofs.YtponbabbabnaeaaGreat
namespace Go.Proofs.YtponbabbabnaeaaGreat
open Go.RowKit Go.Lib
theorem qfk(g:Nat):∀(vs:List Value) (w:World) (k:Nat),w.setCells g k vs=qfS w g k vs
 | [],_,_=>rfl
 | _::vs,w,k=>qfk g vs (w.setCell ⟨g,k,none⟩ _) (k+1)
theorem qgk{ops:Array Oper}{o:Oper}{a:Act}{K:Act→World→Prop}{Q:Exit→Act→World→Prop}{X:Prop}(hgd:o.guard=none)(t:TypeId)(ie:TypeInfo)(hie:Tryz.prog.info? t=some ie)(pa pv:Operand)
  (ho:o.op=.store t pa pv) (W:World) (g k:Nat) (hpa:a.eval pa=.pointer (some (Pq g k))) (vs:List Value) (hpv:a.eval pv=.agg vs.toArray) (hs:vs.length=ie.size) (h1:∀v∈vs,v.oneCell'=true)
  (hc:∀j,j<vs.length→(W.cell? (Pq g (k+j))).isSome=true) (hf:∀j,j<vs.length→W.frozen? (Pq g (k+j))=false)
  (h:K (a.put o.dst undef) (qfS W g k vs)):if Region.wanted o (yielded ops a.tmps)=true then Oper.wp Tryz.prog o a W K Q else X:=by
 have hw:Region.wanted o (yielded ops a.tmps)=true:=by simp[Region.wanted,hgd]
 rw[if_pos hw]
 have hrun:=Go.Lib.rl_storeVar_cells (P:=Tryz.prog) t ie hie g k vs hs h1 W hc hf
 rw[qfk] at hrun
 unfold Oper.wp execOp
 simp only[ho,hpa,hpv,Instr.storeAt,Sem.run_bind,Sem.run_pure]
 rw[show (Instr.sureAddr (Value.pointer (some {block:=g,off:=k}))).run Tryz.prog W=.ok ⟨g,k,none⟩ W from rfl]
 simp only[Result.andThen_ok,hrun]
 exact h
theorem qef{α:Type}{ops:Array Oper}{o:Oper}{a:Act}{K:Act→World→Prop}{Q:Exit→Act→World→Prop}{X:Prop}(E:Elem α)(hgd:o.guard=none)(pa pv:Operand)
  (ho:o.op=.store E.ty pa pv) (W:World) (g k:Nat) (hpa:a.eval pa=.pointer (some (Pq g k))) (x:α) (hpv:a.eval pv=.agg (E.f x).toArray)
  (hc:∀j,j<E.k→(W.cell? (Pq g (k+j))).isSome=true) (hf:∀j,j<E.k→W.frozen? (Pq g (k+j))=false)
  (h:K (a.put o.dst undef) (qfS W g k (E.f x))):if Region.wanted o (yielded ops a.tmps)=true then Oper.wp Tryz.prog o a W K Q else X:=by
 obtain⟨i0,hi,_,hz,_⟩:=E.info_parts
 have hl:=E.len x
 exact qgk hgd E.ty i0 hi pa pv ho W g k hpa (E.f x) hpv (by rw[hl,hz]) (E.one x) (fun j hj=>hc j (by rw[←hl];exact hj)) (fun j hj=>hf j (by rw[←hl];exact hj)) h
end Go.Proofs.YtponbabbabnaeaaGreat
