/- Part 23 of the proof: contracts of functions that the statement reaches. Conditions: as each theorem says. -/
import Derived.Test.YtponbabbabnaeaaGreatQe01
import Derived.Test.YtponbabbabnaeaaGreatQe19
set_option maxRecDepth 100000
namespace Go.Proofs.YtponbabbabnaeaaGreat
open Go.RowKit
theorem qhi {P : Prop} (h : P := by
 have hx4:Ext W1 W1.drew:=Ext.drew1
 replace C3:=hJ (C3.out.ext hx4);replace M3:=hJ (M3.out.ext hx4);replace T3:=hJ (T3.out.ext hx4);replace R3:=hJ (R3.out.ext hx4);replace HZ:=hJ (HZ.out.trans hx4);clear hx4
 generalize W1.drew=u1 at *
 refine E_t 0 138 ?_;refine E_t 1 139 ?_;refine E_t 2 140 ?_;refine E_t 3 141 ?_;refine E_s 4 142 ?_;refine E_s 5 143 ?_;refine E_s 6 144 ?_;refine E_s 7 145 ?_;refine E_s 8 146 ?_;refine E_s 9 147 ?_;refine E_t 10 148 ?_;refine E_t 11 149 ?_;refine E_s 12 150 ?_;refine E_s 13 151 ?_;refine E_s 14 152 ?_;refine E_s 15 153 ?_;refine E_s 16 154 ?_;refine E_s 17 155 ?_;refine E_t 18 156 ?_;refine E_t 19 157 ?_;refine E_s 20 158 ?_;refine E_t 21 159 ?_;refine E_t 22 160 ?_;refine E_s 23 161 ?_;refine E_s 24 162 ?_;refine E_s 25 163 ?_;refine E_s 26 164 ?_;refine E_s 27 165 ?_;refine E_s 28 166 ?_;refine E_s 29 167 ?_;refine E_s 30 168 ?_;refine E_t 31 169 ?_;refine E_t 32 137 ?_;refine qaE (by kernel_rfl) (by rfl) ?_
 go_wp2;go_end0;rw[HR.out]
 exact⟨m,col,rfl,C3.out,rfl,Stp.ext' H.out.Bsz HZ.out⟩) : P := h
theorem qiQ {P : Prop} (h : P := by
 obtain⟨q0,q1,q2,q3,q4,q5,q6,q7,q8⟩:=qdb C3.out
 obtain⟨b0,b1,b2,b3,b4,b5⟩:=six M3.out
 obtain⟨t0,t1⟩:=qhk T3.out
 go_wp2_with fail
 refine(qde m.b W0 C3.out.lies.reads hvl HFT.out).mono ?_
 rintro en w4 ⟨rfl,hx4⟩
 rw[HOB.out]
 replace C3:=hJ (C3.out.ext hx4);replace M3:=hJ (M3.out.ext hx4);replace T3:=hJ (T3.out.ext hx4);replace R3:=hJ (R3.out.ext hx4);replace HZ:=hJ (HZ.out.trans hx4);clear hx4
 clear q0 q1 q2 q3 q4 q5 q6 q7 q8 b0 b1 b2 b3 b4 b5 t0 t1;obtain⟨q0,q1,q2,q3,q4,q5,q6,q7,q8⟩:=qdb C3.out
 obtain⟨b0,b1,b2,b3,b4,b5⟩:=six M3.out
 obtain⟨t0,t1⟩:=qhk T3.out
 cases ob with
 | false=>
  go_wp2;go_meet
  case rel=>exact⟨by rw[HC1.out];rfl,C3,M3,T3,R3,HZ⟩
 | true=>
  go_wp2_with fail
  refine(qcU m.b w4 C3.out.lies.reads hvl HFT.out).mono ?_
  rintro en w5 ⟨rfl,hx4⟩
  rw[HLB.out]
  replace C3:=hJ (C3.out.ext hx4);replace M3:=hJ (M3.out.ext hx4);replace T3:=hJ (T3.out.ext hx4);replace R3:=hJ (R3.out.ext hx4);replace HZ:=hJ (HZ.out.trans hx4);clear hx4
  clear q0 q1 q2 q3 q4 q5 q6 q7 q8 b0 b1 b2 b3 b4 b5 t0 t1;obtain⟨q0,q1,q2,q3,q4,q5,q6,q7,q8⟩:=qdb C3.out
  obtain⟨b0,b1,b2,b3,b4,b5⟩:=six M3.out
  obtain⟨t0,t1⟩:=qhk T3.out
  cases lb with
  | false=>
   go_wp2;go_meet
   case rel=>exact⟨by rw[HC1.out];rfl,C3,M3,T3,R3,HZ⟩
  | true=>
   go_wp2;go_meet
   case rel=>exact⟨by rw[HC1.out];rfl,C3,M3,T3,R3,HZ⟩) : P := h
theorem qgK {P : Prop} (h : P := by
 go_wp2;go_meet
 case rel=>exact⟨by rw[HC1.out];rfl,C3,M3,T3,R3,HZ⟩) : P := h
theorem qgZ {P : Prop} (h : P := by
 rintro en w6 ⟨m6,col6,rfl,hc6,hm6,hs6⟩
 go_wp2;go_end0;rw[HR.out]
 exact⟨m6,col6,rfl,hc6,hm6,(Stp.ext' H.out.Bsz HZ.out).trans hs6⟩) : P := h
theorem qg9 {P : Prop} (h : P := by
 have h1:=(qep ok).2.1
 have h2:qaf m.b.st.views=(v.n,v.xs):=hlv
 rw[h2] at h1;exact h1) : P := h
set_option maxHeartbeats 2000000 in
theorem qnn(m:CM)(B:Nat)(col:Nat→Nat)(p:Nat)(fr num first mst:Int)(pay:List UInt8)(ents:List Ent)(Ae:Option Addr)(ce:Nat)(w:World)(h:CS w B col p m)(ok:OkS m.b.st)(hvx:∀v∈m.b.vs,v.xs.length≤1000)(ho:qaz.Own w B (.slice Ae ents.length ce) ents)(hce:ColV col 2 (.slice Ae ents.length ce))(hep:∀e∈ents,e.p.length≤6000)
  (hll:m.b.log.length≤2000) (hpp:pay.length≤1000000) :
  Calls Tryz.prog 73 #[.pointer (some (Pq p 0)),Jq fr,qoK ⟨11,num,first,mst,pay,ents⟩ Ae ce] w (qhw B col p w (qaP m.cs fr ⟨11,num,first,mst,pay,ents⟩)):=by
 have H:=hJ h;have OK:=hJ ok;have HVX:=hJ hvx;have HO:=hJ ho;have HCE:=hJ hce;have HEP:=hJ hep
 have E0:Hid (Ext w (w.alloc (.cells #[Jq 11,Jq num,Jq first,Jq mst,.string (qax pay),.slice Ae ents.length ce] 110))):=hJ (Ext.new _ _)
 have M0:Hid (BIs (w.alloc (.cells #[Jq 11,Jq num,Jq first,Jq mst,.string (qax pay),.slice Ae ents.length ce] 110)) w.heap.size #[Jq 11,Jq num,Jq first,Jq mst,.string (qax pay),.slice Ae ents.length ce] 110):=hJ (BIs.new _ _ _)
 have hp:=h.lt
 have q1:w.cell? (Pq p 1)=some (.slice m.b.Av m.b.vs.length m.b.cv):=h.cell 1
 have hvl:0<m.b.vs.length:=by have h1:=ok.vs;simpa[BM.st,qaI] using h1
 have HFT:=hJ h.fits
 have hfv:=h.fits.vs
 obtain⟨v,hv,hlv,hcall⟩:=qfa m.b.Av m.b.cv m.b.vs (w.alloc (.cells #[Jq 11,Jq num,Jq first,Jq mst,.string (qax pay),.slice Ae ents.length ce] 110)) (h.ext E0.out).lies.vs hvl (by omega)
 have HXR:Hid (Row (w.alloc (.cells #[Jq 11,Jq num,Jq first,Jq mst,.string (qax pay),.slice Ae ents.length ce] 110)) v.A (qam v.xs)):=hJ (((h.ext E0.out).lies.vs.2 v hv).2 (v.A,qam v.xs) (by simp[qas]))
 have hx16:v.xs.length≤16:=by
  exact qg9
 have HLV:Hid (qaf m.b.st.views=(v.n,v.xs)):=hJ hlv
 have HCALL:=hJ hcall
 obtain⟨nv,Ax,cx,xs⟩:=v
 simp only at HXR hx16 HLV HCALL
 have hfd:=qbm
 obtain⟨hb,hhb⟩:∃b,qbr xs fr=b:=⟨_,rfl⟩
 obtain⟨hs,hhs⟩:∃b,qbr xs m.b.self=b:=⟨_,rfl⟩
 obtain⟨sq,hsq⟩:∃s,qbl (nv,xs)=s:=⟨_,rfl⟩
 obtain⟨ob,hob⟩:∃b,qaL m.b.st=b:=⟨_,rfl⟩
 obtain⟨lb,hlb⟩:∃b,qaN m.b.st=b:=⟨_,rfl⟩
 obtain⟨pb,hpb⟩:∃b,qbL m.b.st.views (fr,first,ents)=b:=⟨_,rfl⟩
 have HHB:=hJ hhb;have HHS:=hJ hhs;have HSQ:=hJ hsq;have HOB:=hJ hob;have HLB:=hJ hlb;have HPB:=hJ hpb
 have HR:Hid (qaP m.cs fr ⟨11,num,first,mst,pay,ents⟩=if (ob&&(lb&&hb))=true then qa4 m.cs fr ⟨11,num,first,mst,pay,ents⟩ else m.cs):=hJ (by
  subst hhb hhs hsq hob hlb hpb
  rw[qdK m fr 11 num first mst pay ents hlv]
  rfl)
 obtain⟨c1,hc1⟩:∃x,x=(ob&&(lb&&hb)):=⟨_,rfl⟩
 rw[←hc1] at HR
 have HC1:=hJ hc1
 clear hc1;clear h ok hcall hv hlv hfv hvx ho hce hep hhb hhs hsq hob hlb hpb;go_enter Tryz.func73,Tryz.ntmps73
 go_wp2_with fail
 refine HCALL.out.mono ?_
 rintro en w1 ⟨rfl,hx1⟩
 have X1:=hJ hx1
 clear hx1 q1 HCALL;have E1:Hid (Ext w1 (w1.alloc (.cells #[Jq nv,.slice Ax xs.length cx] 46))):=hJ (Ext.new _ _)
 have T1:Hid (BIs (w1.alloc (.cells #[Jq nv,.slice Ax xs.length cx] 46)) w1.heap.size #[Jq nv,.slice Ax xs.length cx] 46):=hJ (BIs.new _ _ _)
 go_wp2_with fail
 refine(qa6 Ax cx xs fr _ (HXR.out.ext (X1.out.trans E1.out)) (by omega) hb HHB.out).mono ?_
 rintro en w1' ⟨rfl,rfl⟩
 go_wp2_with fail
 refine(qbw nv Ax cx xs _ (HXR.out.ext (X1.out.trans E1.out)) (by omega) sq HSQ.out).mono ?_
 rintro en w3 ⟨rfl,hx3⟩
 have X03:Hid (Ext (w.alloc (.cells #[Jq 11,Jq num,Jq first,Jq mst,.string (qax pay),.slice Ae ents.length ce] 110)) w3):=hJ ((X1.out.trans E1.out).trans hx3)
 have HZ:Hid (Ext w w3):=hJ (E0.out.trans X03.out)
 have C3:=hJ (H.out.ext HZ.out)
 have M3:=hJ (M0.out.ext X03.out)
 have T3:=hJ (T1.out.ext hx3)
 have R3:Hid (Row w3 Ax (qam xs)):=hJ (HXR.out.ext X03.out)
 clear hx3 X03 E1 T1 X1 E0 M0 HXR;generalize w1.heap.size=r_t at *
 go_upto_region 4 with fail
 obtain⟨W0,rfl⟩:∃x,x=w3:=⟨_,rfl⟩
 go_cut [24] (fun s wx=>s=.bool c1∧Hid (CS wx B col p m)∧Hid (BIs wx w.heap.size #[Jq 11,Jq num,Jq first,Jq mst,.string (qax pay),.slice Ae ents.length ce] 110)∧Hid (BIs wx r_t #[Jq nv,.slice Ax xs.length cx] 46)∧Hid (Row wx Ax (qam xs))∧Hid (Ext w wx))
 case first=>
  exact qiQ
 case rest=>
  obtain⟨rfl,HC0,HM0,HT0,HR0,HZ0⟩:=hcut
  clear C3 M3 T3 R3 HZ;obtain⟨C3,M3,T3,R3,HZ⟩:Hid (CS wc B col p m)∧Hid (BIs wc w.heap.size #[Jq 11,Jq num,Jq first,Jq mst,.string (qax pay),.slice Ae ents.length ce] 110)∧Hid (BIs wc r_t #[Jq nv,.slice Ax xs.length cx] 46)∧Hid (Row wc Ax (qam xs))∧Hid (Ext w wc):=⟨HC0,HM0,HT0,HR0,HZ0⟩
  clear HC0 HM0 HT0 HR0 HZ0;obtain⟨W1,rfl⟩:∃x,x=wc:=⟨wc,rfl⟩
  cases c1 with
  | false=>
   rw[if_neg (by simp)] at HR
   obtain⟨q0,q1,q2,q3,q4,q5,q6,q7,q8⟩:=qdb C3.out
   obtain⟨b0,b1,b2,b3,b4,b5⟩:=six M3.out
   obtain⟨t0,t1⟩:=qhk T3.out
   go_upto_region 15 with fail
   clear q0 q1 q2 q3 q4 q5 q6 q7 q8 b0 b1 b2 b3 b4 b5 t0 t1;refine qac 33 (fun w'=>Cq w' p 0 (Jq m.b.self)∧Cq w' p 1 (.slice m.b.Av m.b.vs.length m.b.cv)∧Cq w' p 2 (Jq m.b.base)∧Cq w' p 3 (.slice m.b.Al m.b.log.length m.b.cl)∧Cq w' p 4 (Jq m.b.stable)∧Cq w' p 5 (Jq m.b.sent)∧Cq w' p 6 (.slice m.b.Ap m.b.pend.length m.b.cp)∧Cq w' p 7 (.slice m.b.Am m.b.marks.length m.b.cm)∧Cq w' p 8 (.slice m.b.Af m.b.fls.length m.b.cf)∧w'.cell? (Pw w 0)=some (Jq 11)∧Cq w' r_t 1 (.slice Ax xs.length cx)) (by kernel_rfl) ⟨(C3.out.ext Ext.drew1).cell 0,(C3.out.ext Ext.drew1).cell 1,(C3.out.ext Ext.drew1).cell 2,(C3.out.ext Ext.drew1).cell 3,(C3.out.ext Ext.drew1).cell 4,(C3.out.ext Ext.drew1).cell 5,(C3.out.ext Ext.drew1).cell 6,(C3.out.ext Ext.drew1).cell 7,(C3.out.ext Ext.drew1).cell 8,(M3.out.ext Ext.drew1).cell 0,(T3.out.ext Ext.drew1).cell 1⟩ (fun hHeld=>?_)
   exact qhi
  | true=>
   rw[if_pos rfl] at HR
   obtain⟨q0,q1,q2,q3,q4,q5,q6,q7,q8⟩:=qdb C3.out
   obtain⟨b0,b1,b2,b3,b4,b5⟩:=six M3.out
   obtain⟨t0,t1⟩:=qhk T3.out
   go_wp2_with fail
   refine(qit m B col p fr 11 num first mst pay ents Ae ce W1 C3.out hll hpp).mono ?_
   exact qgZ
set_option maxHeartbeats 2000000 in
theorem qos(m:CM)(B:Nat)(col:Nat→Nat)(p:Nat)(fr num first mst:Int)(pay:List UInt8)(ents:List Ent)(Ae:Option Addr)(ce:Nat)(w:World)(h:CS w B col p m)(ok:OkS m.b.st)(hvx:∀v∈m.b.vs,v.xs.length≤1000)(ho:qaz.Own w B (.slice Ae ents.length ce) ents)(hce:ColV col 2 (.slice Ae ents.length ce))(hep:∀e∈ents,e.p.length≤6000)
  (hdl:m.dl.length≤100000) (hee:ents.length≤ce) (hel:ents.length≤2000) (hf1:0≤first) (hf2:first≤1099511627776) :
  Calls Tryz.prog 73 #[.pointer (some (Pq p 0)),Jq fr,qoK ⟨12,num,first,mst,pay,ents⟩ Ae ce] w (qhw B col p w (qaP m.cs fr ⟨12,num,first,mst,pay,ents⟩)):=by
 have H:=hJ h;have OK:=hJ ok;have HVX:=hJ hvx;have HO:=hJ ho;have HCE:=hJ hce;have HEP:=hJ hep
 have E0:Hid (Ext w (w.alloc (.cells #[Jq 12,Jq num,Jq first,Jq mst,.string (qax pay),.slice Ae ents.length ce] 110))):=hJ (Ext.new _ _)
 have M0:Hid (BIs (w.alloc (.cells #[Jq 12,Jq num,Jq first,Jq mst,.string (qax pay),.slice Ae ents.length ce] 110)) w.heap.size #[Jq 12,Jq num,Jq first,Jq mst,.string (qax pay),.slice Ae ents.length ce] 110):=hJ (BIs.new _ _ _)
 have hp:=h.lt
 have q1:w.cell? (Pq p 1)=some (.slice m.b.Av m.b.vs.length m.b.cv):=h.cell 1
 have hvl:0<m.b.vs.length:=by have h1:=ok.vs;simpa[BM.st,qaI] using h1
 have HFT:=hJ h.fits
 have hfv:=h.fits.vs
 obtain⟨v,hv,hlv,hcall⟩:=qfa m.b.Av m.b.cv m.b.vs (w.alloc (.cells #[Jq 12,Jq num,Jq first,Jq mst,.string (qax pay),.slice Ae ents.length ce] 110)) (h.ext E0.out).lies.vs hvl (by omega)
 have HXR:Hid (Row (w.alloc (.cells #[Jq 12,Jq num,Jq first,Jq mst,.string (qax pay),.slice Ae ents.length ce] 110)) v.A (qam v.xs)):=hJ (((h.ext E0.out).lies.vs.2 v hv).2 (v.A,qam v.xs) (by simp[qas]))
 have hx16:v.xs.length≤16:=by
  exact qg9
 have HLV:Hid (qaf m.b.st.views=(v.n,v.xs)):=hJ hlv
 have HCALL:=hJ hcall
 obtain⟨nv,Ax,cx,xs⟩:=v
 simp only at HXR hx16 HLV HCALL
 have hfd:=qbm
 obtain⟨hb,hhb⟩:∃b,qbr xs fr=b:=⟨_,rfl⟩
 obtain⟨hs,hhs⟩:∃b,qbr xs m.b.self=b:=⟨_,rfl⟩
 obtain⟨sq,hsq⟩:∃s,qbl (nv,xs)=s:=⟨_,rfl⟩
 obtain⟨ob,hob⟩:∃b,qaL m.b.st=b:=⟨_,rfl⟩
 obtain⟨lb,hlb⟩:∃b,qaN m.b.st=b:=⟨_,rfl⟩
 obtain⟨pb,hpb⟩:∃b,qbL m.b.st.views (fr,first,ents)=b:=⟨_,rfl⟩
 have HHB:=hJ hhb;have HHS:=hJ hhs;have HSQ:=hJ hsq;have HOB:=hJ hob;have HLB:=hJ hlb;have HPB:=hJ hpb
 have HR:Hid (qaP m.cs fr ⟨12,num,first,mst,pay,ents⟩=if (ob&&(!lb&&fr == sq))=true then qaM m.cs ⟨12,num,first,mst,pay,ents⟩ else m.cs):=hJ (by
  subst hhb hhs hsq hob hlb hpb
  rw[qdK m fr 12 num first mst pay ents hlv]
  rfl)
 obtain⟨c1,hc1⟩:∃x,x=(ob&&(!lb&&fr == sq)):=⟨_,rfl⟩
 rw[←hc1] at HR
 have HC1:=hJ hc1
 clear hc1;clear h ok hcall hv hlv hfv hvx ho hce hep hhb hhs hsq hob hlb hpb;go_enter Tryz.func73,Tryz.ntmps73
 go_wp2_with fail
 refine HCALL.out.mono ?_
 rintro en w1 ⟨rfl,hx1⟩
 have X1:=hJ hx1
 clear hx1 q1 HCALL;have E1:Hid (Ext w1 (w1.alloc (.cells #[Jq nv,.slice Ax xs.length cx] 46))):=hJ (Ext.new _ _)
 have T1:Hid (BIs (w1.alloc (.cells #[Jq nv,.slice Ax xs.length cx] 46)) w1.heap.size #[Jq nv,.slice Ax xs.length cx] 46):=hJ (BIs.new _ _ _)
 go_wp2_with fail
 refine(qa6 Ax cx xs fr _ (HXR.out.ext (X1.out.trans E1.out)) (by omega) hb HHB.out).mono ?_
 rintro en w1' ⟨rfl,rfl⟩
 go_wp2_with fail
 refine(qbw nv Ax cx xs _ (HXR.out.ext (X1.out.trans E1.out)) (by omega) sq HSQ.out).mono ?_
 rintro en w3 ⟨rfl,hx3⟩
 have X03:Hid (Ext (w.alloc (.cells #[Jq 12,Jq num,Jq first,Jq mst,.string (qax pay),.slice Ae ents.length ce] 110)) w3):=hJ ((X1.out.trans E1.out).trans hx3)
 have HZ:Hid (Ext w w3):=hJ (E0.out.trans X03.out)
 have C3:=hJ (H.out.ext HZ.out)
 have M3:=hJ (M0.out.ext X03.out)
 have T3:=hJ (T1.out.ext hx3)
 have R3:Hid (Row w3 Ax (qam xs)):=hJ (HXR.out.ext X03.out)
 clear hx3 X03 E1 T1 X1 E0 M0 HXR;generalize w1.heap.size=r_t at *
 go_upto_region 4 with fail
 obtain⟨W0,rfl⟩:∃x,x=w3:=⟨_,rfl⟩
 obtain⟨q0,q1,q2,q3,q4,q5,q6,q7,q8⟩:=qdb C3.out
 obtain⟨b0,b1,b2,b3,b4,b5⟩:=six M3.out
 obtain⟨t0,t1⟩:=qhk T3.out
 go_upto_region 6 with fail
 clear q0 q1 q2 q3 q4 q5 q6 q7 q8 b0 b1 b2 b3 b4 b5 t0 t1;go_cut [49] (fun s wx=>s=.bool c1∧Hid (CS wx B col p m)∧Hid (BIs wx w.heap.size #[Jq 12,Jq num,Jq first,Jq mst,.string (qax pay),.slice Ae ents.length ce] 110)∧Hid (BIs wx r_t #[Jq nv,.slice Ax xs.length cx] 46)∧Hid (Row wx Ax (qam xs))∧Hid (Ext w wx))
 case first=>
  obtain⟨q0,q1,q2,q3,q4,q5,q6,q7,q8⟩:=qdb C3.out
  obtain⟨b0,b1,b2,b3,b4,b5⟩:=six M3.out
  obtain⟨t0,t1⟩:=qhk T3.out
  go_wp2_with fail
  refine(qde m.b W0 C3.out.lies.reads hvl HFT.out).mono ?_
  rintro en w4 ⟨rfl,hx4⟩
  rw[HOB.out]
  replace C3:=hJ (C3.out.ext hx4);replace M3:=hJ (M3.out.ext hx4);replace T3:=hJ (T3.out.ext hx4);replace R3:=hJ (R3.out.ext hx4);replace HZ:=hJ (HZ.out.trans hx4);clear hx4
  clear q0 q1 q2 q3 q4 q5 q6 q7 q8 b0 b1 b2 b3 b4 b5 t0 t1;obtain⟨q0,q1,q2,q3,q4,q5,q6,q7,q8⟩:=qdb C3.out
  obtain⟨b0,b1,b2,b3,b4,b5⟩:=six M3.out
  obtain⟨t0,t1⟩:=qhk T3.out
  cases ob with
  | false=>
   exact qgK
  | true=>
   go_wp2_with fail
   refine(qcU m.b w4 C3.out.lies.reads hvl HFT.out).mono ?_
   rintro en w5 ⟨rfl,hx4⟩
   rw[HLB.out]
   replace C3:=hJ (C3.out.ext hx4);replace M3:=hJ (M3.out.ext hx4);replace T3:=hJ (T3.out.ext hx4);replace R3:=hJ (R3.out.ext hx4);replace HZ:=hJ (HZ.out.trans hx4);clear hx4
   clear q0 q1 q2 q3 q4 q5 q6 q7 q8 b0 b1 b2 b3 b4 b5 t0 t1;obtain⟨q0,q1,q2,q3,q4,q5,q6,q7,q8⟩:=qdb C3.out
   obtain⟨b0,b1,b2,b3,b4,b5⟩:=six M3.out
   obtain⟨t0,t1⟩:=qhk T3.out
   cases lb with
   | true=>
    exact qgK
   | false=>
    exact qgK
 case rest=>
  obtain⟨rfl,HC0,HM0,HT0,HR0,HZ0⟩:=hcut
  clear C3 M3 T3 R3 HZ;obtain⟨C3,M3,T3,R3,HZ⟩:Hid (CS wc B col p m)∧Hid (BIs wc w.heap.size #[Jq 12,Jq num,Jq first,Jq mst,.string (qax pay),.slice Ae ents.length ce] 110)∧Hid (BIs wc r_t #[Jq nv,.slice Ax xs.length cx] 46)∧Hid (Row wc Ax (qam xs))∧Hid (Ext w wc):=⟨HC0,HM0,HT0,HR0,HZ0⟩
  clear HC0 HM0 HT0 HR0 HZ0;obtain⟨W1,rfl⟩:∃x,x=wc:=⟨wc,rfl⟩
  cases c1 with
  | false=>
   rw[if_neg (by simp)] at HR
   obtain⟨q0,q1,q2,q3,q4,q5,q6,q7,q8⟩:=qdb C3.out
   obtain⟨b0,b1,b2,b3,b4,b5⟩:=six M3.out
   obtain⟨t0,t1⟩:=qhk T3.out
   go_upto_region 15 with fail
   clear q0 q1 q2 q3 q4 q5 q6 q7 q8 b0 b1 b2 b3 b4 b5 t0 t1;refine qac 33 (fun w'=>Cq w' p 0 (Jq m.b.self)∧Cq w' p 1 (.slice m.b.Av m.b.vs.length m.b.cv)∧Cq w' p 2 (Jq m.b.base)∧Cq w' p 3 (.slice m.b.Al m.b.log.length m.b.cl)∧Cq w' p 4 (Jq m.b.stable)∧Cq w' p 5 (Jq m.b.sent)∧Cq w' p 6 (.slice m.b.Ap m.b.pend.length m.b.cp)∧Cq w' p 7 (.slice m.b.Am m.b.marks.length m.b.cm)∧Cq w' p 8 (.slice m.b.Af m.b.fls.length m.b.cf)∧w'.cell? (Pw w 0)=some (Jq 12)∧Cq w' r_t 1 (.slice Ax xs.length cx)) (by kernel_rfl) ⟨(C3.out.ext Ext.drew1).cell 0,(C3.out.ext Ext.drew1).cell 1,(C3.out.ext Ext.drew1).cell 2,(C3.out.ext Ext.drew1).cell 3,(C3.out.ext Ext.drew1).cell 4,(C3.out.ext Ext.drew1).cell 5,(C3.out.ext Ext.drew1).cell 6,(C3.out.ext Ext.drew1).cell 7,(C3.out.ext Ext.drew1).cell 8,(M3.out.ext Ext.drew1).cell 0,(T3.out.ext Ext.drew1).cell 1⟩ (fun hHeld=>?_)
   exact qhi
  | true=>
   rw[if_pos rfl] at HR
   obtain⟨q0,q1,q2,q3,q4,q5,q6,q7,q8⟩:=qdb C3.out
   obtain⟨b0,b1,b2,b3,b4,b5⟩:=six M3.out
   obtain⟨t0,t1⟩:=qhk T3.out
   go_wp2_with fail
   refine(qiY m B col p ⟨12,num,first,mst,pay,ents⟩ Ae ce W1 C3.out OK.out (by exact HO.out.row.ext HZ.out) (by exact hee) (by exact hel) (by exact HEP.out) (by exact hf1) (by exact hf2) hdl).mono ?_
   exact qgZ
set_option maxHeartbeats 2000000 in
theorem qoc(m:CM)(B:Nat)(col:Nat→Nat)(p:Nat)(fr num first mst:Int)(pay:List UInt8)(ents:List Ent)(Ae:Option Addr)(ce:Nat)(w:World)(h:CS w B col p m)(ok:OkS m.b.st)(hvx:∀v∈m.b.vs,v.xs.length≤1000)(ho:qaz.Own w B (.slice Ae ents.length ce) ents)(hce:ColV col 2 (.slice Ae ents.length ce))(hep:∀e∈ents,e.p.length≤6000)
  (hdl:m.dl.length≤100000) (hmn:m.b.marks.length≤50000) :
  Calls Tryz.prog 73 #[.pointer (some (Pq p 0)),Jq fr,qoK ⟨13,num,first,mst,pay,ents⟩ Ae ce] w (qhw B col p w (qaP m.cs fr ⟨13,num,first,mst,pay,ents⟩)):=by
 have H:=hJ h;have OK:=hJ ok;have HVX:=hJ hvx;have HO:=hJ ho;have HCE:=hJ hce;have HEP:=hJ hep
 have E0:Hid (Ext w (w.alloc (.cells #[Jq 13,Jq num,Jq first,Jq mst,.string (qax pay),.slice Ae ents.length ce] 110))):=hJ (Ext.new _ _)
 have M0:Hid (BIs (w.alloc (.cells #[Jq 13,Jq num,Jq first,Jq mst,.string (qax pay),.slice Ae ents.length ce] 110)) w.heap.size #[Jq 13,Jq num,Jq first,Jq mst,.string (qax pay),.slice Ae ents.length ce] 110):=hJ (BIs.new _ _ _)
 have hp:=h.lt
 have q1:w.cell? (Pq p 1)=some (.slice m.b.Av m.b.vs.length m.b.cv):=h.cell 1
 have hvl:0<m.b.vs.length:=by have h1:=ok.vs;simpa[BM.st,qaI] using h1
 have HFT:=hJ h.fits
 have hfv:=h.fits.vs
 obtain⟨v,hv,hlv,hcall⟩:=qfa m.b.Av m.b.cv m.b.vs (w.alloc (.cells #[Jq 13,Jq num,Jq first,Jq mst,.string (qax pay),.slice Ae ents.length ce] 110)) (h.ext E0.out).lies.vs hvl (by omega)
 have HXR:Hid (Row (w.alloc (.cells #[Jq 13,Jq num,Jq first,Jq mst,.string (qax pay),.slice Ae ents.length ce] 110)) v.A (qam v.xs)):=hJ (((h.ext E0.out).lies.vs.2 v hv).2 (v.A,qam v.xs) (by simp[qas]))
 have hx16:v.xs.length≤16:=by
  exact qg9
 have HLV:Hid (qaf m.b.st.views=(v.n,v.xs)):=hJ hlv
 have HCALL:=hJ hcall
 obtain⟨nv,Ax,cx,xs⟩:=v
 simp only at HXR hx16 HLV HCALL
 have hfd:=qbm
 obtain⟨hb,hhb⟩:∃b,qbr xs fr=b:=⟨_,rfl⟩
 obtain⟨hs,hhs⟩:∃b,qbr xs m.b.self=b:=⟨_,rfl⟩
 obtain⟨sq,hsq⟩:∃s,qbl (nv,xs)=s:=⟨_,rfl⟩
 obtain⟨ob,hob⟩:∃b,qaL m.b.st=b:=⟨_,rfl⟩
 obtain⟨lb,hlb⟩:∃b,qaN m.b.st=b:=⟨_,rfl⟩
 obtain⟨pb,hpb⟩:∃b,qbL m.b.st.views (fr,first,ents)=b:=⟨_,rfl⟩
 have HHB:=hJ hhb;have HHS:=hJ hhs;have HSQ:=hJ hsq;have HOB:=hJ hob;have HLB:=hJ hlb;have HPB:=hJ hpb
 have HR:Hid (qaP m.cs fr ⟨13,num,first,mst,pay,ents⟩=if (ob&&(lb&&hb))=true then qcC m.cs fr first else m.cs):=hJ (by
  subst hhb hhs hsq hob hlb hpb
  rw[qdK m fr 13 num first mst pay ents hlv]
  rfl)
 obtain⟨c1,hc1⟩:∃x,x=(ob&&(lb&&hb)):=⟨_,rfl⟩
 rw[←hc1] at HR
 have HC1:=hJ hc1
 clear hc1;clear h ok hcall hv hlv hfv hvx ho hce hep hhb hhs hsq hob hlb hpb;go_enter Tryz.func73,Tryz.ntmps73
 go_wp2_with fail
 refine HCALL.out.mono ?_
 rintro en w1 ⟨rfl,hx1⟩
 have X1:=hJ hx1
 clear hx1 q1 HCALL;have E1:Hid (Ext w1 (w1.alloc (.cells #[Jq nv,.slice Ax xs.length cx] 46))):=hJ (Ext.new _ _)
 have T1:Hid (BIs (w1.alloc (.cells #[Jq nv,.slice Ax xs.length cx] 46)) w1.heap.size #[Jq nv,.slice Ax xs.length cx] 46):=hJ (BIs.new _ _ _)
 go_wp2_with fail
 refine(qa6 Ax cx xs fr _ (HXR.out.ext (X1.out.trans E1.out)) (by omega) hb HHB.out).mono ?_
 rintro en w1' ⟨rfl,rfl⟩
 go_wp2_with fail
 refine(qbw nv Ax cx xs _ (HXR.out.ext (X1.out.trans E1.out)) (by omega) sq HSQ.out).mono ?_
 rintro en w3 ⟨rfl,hx3⟩
 have X03:Hid (Ext (w.alloc (.cells #[Jq 13,Jq num,Jq first,Jq mst,.string (qax pay),.slice Ae ents.length ce] 110)) w3):=hJ ((X1.out.trans E1.out).trans hx3)
 have HZ:Hid (Ext w w3):=hJ (E0.out.trans X03.out)
 have C3:=hJ (H.out.ext HZ.out)
 have M3:=hJ (M0.out.ext X03.out)
 have T3:=hJ (T1.out.ext hx3)
 have R3:Hid (Row w3 Ax (qam xs)):=hJ (HXR.out.ext X03.out)
 clear hx3 X03 E1 T1 X1 E0 M0 HXR;generalize w1.heap.size=r_t at *
 go_upto_region 4 with fail
 obtain⟨W0,rfl⟩:∃x,x=w3:=⟨_,rfl⟩
 obtain⟨q0,q1,q2,q3,q4,q5,q6,q7,q8⟩:=qdb C3.out
 obtain⟨b0,b1,b2,b3,b4,b5⟩:=six M3.out
 obtain⟨t0,t1⟩:=qhk T3.out
 go_upto_region 8 with fail
 clear q0 q1 q2 q3 q4 q5 q6 q7 q8 b0 b1 b2 b3 b4 b5 t0 t1;go_cut [74] (fun s wx=>s=.bool c1∧Hid (CS wx B col p m)∧Hid (BIs wx w.heap.size #[Jq 13,Jq num,Jq first,Jq mst,.string (qax pay),.slice Ae ents.length ce] 110)∧Hid (BIs wx r_t #[Jq nv,.slice Ax xs.length cx] 46)∧Hid (Row wx Ax (qam xs))∧Hid (Ext w wx))
 case first=>
  exact qiQ
 case rest=>
  obtain⟨rfl,HC0,HM0,HT0,HR0,HZ0⟩:=hcut
  clear C3 M3 T3 R3 HZ;obtain⟨C3,M3,T3,R3,HZ⟩:Hid (CS wc B col p m)∧Hid (BIs wc w.heap.size #[Jq 13,Jq num,Jq first,Jq mst,.string (qax pay),.slice Ae ents.length ce] 110)∧Hid (BIs wc r_t #[Jq nv,.slice Ax xs.length cx] 46)∧Hid (Row wc Ax (qam xs))∧Hid (Ext w wc):=⟨HC0,HM0,HT0,HR0,HZ0⟩
  clear HC0 HM0 HT0 HR0 HZ0;obtain⟨W1,rfl⟩:∃x,x=wc:=⟨wc,rfl⟩
  cases c1 with
  | false=>
   rw[if_neg (by simp)] at HR
   obtain⟨q0,q1,q2,q3,q4,q5,q6,q7,q8⟩:=qdb C3.out
   obtain⟨b0,b1,b2,b3,b4,b5⟩:=six M3.out
   obtain⟨t0,t1⟩:=qhk T3.out
   go_upto_region 15 with fail
   clear q0 q1 q2 q3 q4 q5 q6 q7 q8 b0 b1 b2 b3 b4 b5 t0 t1;refine qac 33 (fun w'=>Cq w' p 0 (Jq m.b.self)∧Cq w' p 1 (.slice m.b.Av m.b.vs.length m.b.cv)∧Cq w' p 2 (Jq m.b.base)∧Cq w' p 3 (.slice m.b.Al m.b.log.length m.b.cl)∧Cq w' p 4 (Jq m.b.stable)∧Cq w' p 5 (Jq m.b.sent)∧Cq w' p 6 (.slice m.b.Ap m.b.pend.length m.b.cp)∧Cq w' p 7 (.slice m.b.Am m.b.marks.length m.b.cm)∧Cq w' p 8 (.slice m.b.Af m.b.fls.length m.b.cf)∧w'.cell? (Pw w 0)=some (Jq 13)∧Cq w' r_t 1 (.slice Ax xs.length cx)) (by kernel_rfl) ⟨(C3.out.ext Ext.drew1).cell 0,(C3.out.ext Ext.drew1).cell 1,(C3.out.ext Ext.drew1).cell 2,(C3.out.ext Ext.drew1).cell 3,(C3.out.ext Ext.drew1).cell 4,(C3.out.ext Ext.drew1).cell 5,(C3.out.ext Ext.drew1).cell 6,(C3.out.ext Ext.drew1).cell 7,(C3.out.ext Ext.drew1).cell 8,(M3.out.ext Ext.drew1).cell 0,(T3.out.ext Ext.drew1).cell 1⟩ (fun hHeld=>?_)
   exact qhi
  | true=>
   rw[if_pos rfl] at HR
   obtain⟨q0,q1,q2,q3,q4,q5,q6,q7,q8⟩:=qdb C3.out
   obtain⟨b0,b1,b2,b3,b4,b5⟩:=six M3.out
   obtain⟨t0,t1⟩:=qhk T3.out
   go_wp2_with fail
   refine(qnj m B col p fr first W1 C3.out OK.out hdl hmn).mono ?_
   exact qgZ
theorem qjo {P : Prop} (h : P := by
 refine E_t 0 138 ?_;refine E_t 1 139 ?_;refine E_t 2 140 ?_;refine E_t 3 141 ?_;refine E_s 4 142 ?_;refine E_s 5 143 ?_;refine E_s 6 144 ?_;refine E_s 7 145 ?_;refine E_s 8 146 ?_;refine E_s 9 147 ?_;refine E_t 10 148 ?_;refine E_t 11 149 ?_;refine E_s 12 150 ?_;refine E_s 13 151 ?_;refine E_s 14 152 ?_;refine E_s 15 153 ?_;refine E_s 16 154 ?_;refine E_s 17 155 ?_;refine E_t 18 156 ?_;refine E_t 19 157 ?_;refine E_s 20 158 ?_;refine E_t 21 159 ?_;refine E_t 22 160 ?_;refine E_s 23 161 ?_;refine E_s 24 162 ?_;refine E_s 25 163 ?_;refine E_s 26 164 ?_;refine E_s 27 165 ?_;refine E_s 28 166 ?_;refine E_s 29 167 ?_;refine E_s 30 168 ?_;refine E_t 31 169 ?_;refine E_t 32 137 ?_;refine qaE (by kernel_rfl) (by rfl) ?_
 go_wp2;go_end0;rw[HR.out]
 exact⟨m,col,rfl,C3.out,rfl,Stp.ext' H.out.Bsz HZ.out⟩) : P := h
theorem qgU {P : Prop} (h : P := by
 go_wp2;go_meet
 case rel=>exact⟨by rw[HC1.out];rfl,C3,M3,T3,R3,HZ⟩) : P := h
set_option maxHeartbeats 2000000 in
theorem qor(m:CM)(B:Nat)(col:Nat→Nat)(p:Nat)(fr num first mst:Int)(pay:List UInt8)(ents:List Ent)(Ae:Option Addr)(ce:Nat)(w:World)(h:CS w B col p m)(ok:OkS m.b.st)(hvx:∀v∈m.b.vs,v.xs.length≤1000)(ho:qaz.Own w B (.slice Ae ents.length ce) ents)(hce:ColV col 2 (.slice Ae ents.length ce))(hep:∀e∈ents,e.p.length≤6000)
  (hfn:m.b.fls.length≤49999) (hvlt:m.b.vs.length≤100000) (hel:ents.length≤2000) :
  Calls Tryz.prog 73 #[.pointer (some (Pq p 0)),Jq fr,qoK ⟨14,num,first,mst,pay,ents⟩ Ae ce] w (qhw B col p w (qaP m.cs fr ⟨14,num,first,mst,pay,ents⟩)):=by
 have H:=hJ h;have OK:=hJ ok;have HVX:=hJ hvx;have HO:=hJ ho;have HCE:=hJ hce;have HEP:=hJ hep
 have E0:Hid (Ext w (w.alloc (.cells #[Jq 14,Jq num,Jq first,Jq mst,.string (qax pay),.slice Ae ents.length ce] 110))):=hJ (Ext.new _ _)
 have M0:Hid (BIs (w.alloc (.cells #[Jq 14,Jq num,Jq first,Jq mst,.string (qax pay),.slice Ae ents.length ce] 110)) w.heap.size #[Jq 14,Jq num,Jq first,Jq mst,.string (qax pay),.slice Ae ents.length ce] 110):=hJ (BIs.new _ _ _)
 have hp:=h.lt
 have q1:w.cell? (Pq p 1)=some (.slice m.b.Av m.b.vs.length m.b.cv):=h.cell 1
 have hvl:0<m.b.vs.length:=by have h1:=ok.vs;simpa[BM.st,qaI] using h1
 have HFT:=hJ h.fits
 have hfv:=h.fits.vs
 obtain⟨v,hv,hlv,hcall⟩:=qfa m.b.Av m.b.cv m.b.vs (w.alloc (.cells #[Jq 14,Jq num,Jq first,Jq mst,.string (qax pay),.slice Ae ents.length ce] 110)) (h.ext E0.out).lies.vs hvl (by omega)
 have HXR:Hid (Row (w.alloc (.cells #[Jq 14,Jq num,Jq first,Jq mst,.string (qax pay),.slice Ae ents.length ce] 110)) v.A (qam v.xs)):=hJ (((h.ext E0.out).lies.vs.2 v hv).2 (v.A,qam v.xs) (by simp[qas]))
 have hx16:v.xs.length≤16:=by
  have h1:=(qep ok).2.1
  have h2:qaf m.b.st.views=(v.n,v.xs):=hlv
  rw[h2] at h1;exact h1
 have HLV:Hid (qaf m.b.st.views=(v.n,v.xs)):=hJ hlv
 have HCALL:=hJ hcall
 obtain⟨nv,Ax,cx,xs⟩:=v
 simp only at HXR hx16 HLV HCALL
 have hfd:=qbm
 obtain⟨hb,hhb⟩:∃b,qbr xs fr=b:=⟨_,rfl⟩
 obtain⟨hs,hhs⟩:∃b,qbr xs m.b.self=b:=⟨_,rfl⟩
 obtain⟨sq,hsq⟩:∃s,qbl (nv,xs)=s:=⟨_,rfl⟩
 obtain⟨ob,hob⟩:∃b,qaL m.b.st=b:=⟨_,rfl⟩
 obtain⟨lb,hlb⟩:∃b,qaN m.b.st=b:=⟨_,rfl⟩
 obtain⟨pb,hpb⟩:∃b,qbL m.b.st.views (fr,first,ents)=b:=⟨_,rfl⟩
 have HHB:=hJ hhb;have HHS:=hJ hhs;have HSQ:=hJ hsq;have HOB:=hJ hob;have HLB:=hJ hlb;have HPB:=hJ hpb
 have HR:Hid (qaP m.cs fr ⟨14,num,first,mst,pay,ents⟩=if (!ob&&lb)=true then (if pb=true then {m.cs with s:=qaZ {m.cs.s with fls:=putF m.cs.s.fls (fr,first,ents)}} else m.cs) else m.cs):=hJ (by
  subst hhb hhs hsq hob hlb hpb
  rw[qdK m fr 14 num first mst pay ents hlv]
  rfl)
 obtain⟨c1,hc1⟩:∃x,x=(!ob&&lb):=⟨_,rfl⟩
 rw[←hc1] at HR
 have HC1:=hJ hc1
 clear hc1;clear h ok hcall hv hlv hfv hvx ho hce hep hhb hhs hsq hob hlb hpb;go_enter Tryz.func73,Tryz.ntmps73
 go_wp2_with fail
 refine HCALL.out.mono ?_
 rintro en w1 ⟨rfl,hx1⟩
 have X1:=hJ hx1
 clear hx1 q1 HCALL;have E1:Hid (Ext w1 (w1.alloc (.cells #[Jq nv,.slice Ax xs.length cx] 46))):=hJ (Ext.new _ _)
 have T1:Hid (BIs (w1.alloc (.cells #[Jq nv,.slice Ax xs.length cx] 46)) w1.heap.size #[Jq nv,.slice Ax xs.length cx] 46):=hJ (BIs.new _ _ _)
 go_wp2_with fail
 refine(qa6 Ax cx xs fr _ (HXR.out.ext (X1.out.trans E1.out)) (by omega) hb HHB.out).mono ?_
 rintro en w1' ⟨rfl,rfl⟩
 go_wp2_with fail
 refine(qbw nv Ax cx xs _ (HXR.out.ext (X1.out.trans E1.out)) (by omega) sq HSQ.out).mono ?_
 rintro en w3 ⟨rfl,hx3⟩
 have X03:Hid (Ext (w.alloc (.cells #[Jq 14,Jq num,Jq first,Jq mst,.string (qax pay),.slice Ae ents.length ce] 110)) w3):=hJ ((X1.out.trans E1.out).trans hx3)
 have HZ:Hid (Ext w w3):=hJ (E0.out.trans X03.out)
 have C3:=hJ (H.out.ext HZ.out)
 have M3:=hJ (M0.out.ext X03.out)
 have T3:=hJ (T1.out.ext hx3)
 have R3:Hid (Row w3 Ax (qam xs)):=hJ (HXR.out.ext X03.out)
 clear hx3 X03 E1 T1 X1 E0 M0 HXR;generalize w1.heap.size=r_t at *
 go_upto_region 4 with fail
 obtain⟨W0,rfl⟩:∃x,x=w3:=⟨_,rfl⟩
 obtain⟨q0,q1,q2,q3,q4,q5,q6,q7,q8⟩:=qdb C3.out
 obtain⟨b0,b1,b2,b3,b4,b5⟩:=six M3.out
 obtain⟨t0,t1⟩:=qhk T3.out
 go_upto_region 10 with fail
 clear q0 q1 q2 q3 q4 q5 q6 q7 q8 b0 b1 b2 b3 b4 b5 t0 t1;go_cut [100] (fun s wx=>s=.bool c1∧Hid (CS wx B col p m)∧Hid (BIs wx w.heap.size #[Jq 14,Jq num,Jq first,Jq mst,.string (qax pay),.slice Ae ents.length ce] 110)∧Hid (BIs wx r_t #[Jq nv,.slice Ax xs.length cx] 46)∧Hid (Row wx Ax (qam xs))∧Hid (Ext w wx))
 case first=>
  obtain⟨q0,q1,q2,q3,q4,q5,q6,q7,q8⟩:=qdb C3.out
  obtain⟨b0,b1,b2,b3,b4,b5⟩:=six M3.out
  obtain⟨t0,t1⟩:=qhk T3.out
  go_wp2_with fail
  refine(qde m.b W0 C3.out.lies.reads hvl HFT.out).mono ?_
  rintro en w4 ⟨rfl,hx4⟩
  rw[HOB.out]
  replace C3:=hJ (C3.out.ext hx4);replace M3:=hJ (M3.out.ext hx4);replace T3:=hJ (T3.out.ext hx4);replace R3:=hJ (R3.out.ext hx4);replace HZ:=hJ (HZ.out.trans hx4);clear hx4
  clear q0 q1 q2 q3 q4 q5 q6 q7 q8 b0 b1 b2 b3 b4 b5 t0 t1;obtain⟨q0,q1,q2,q3,q4,q5,q6,q7,q8⟩:=qdb C3.out
  obtain⟨b0,b1,b2,b3,b4,b5⟩:=six M3.out
  obtain⟨t0,t1⟩:=qhk T3.out
  cases ob with
  | true=>
   exact qgU
  | false=>
   go_wp2_with fail
   refine(qcU m.b w4 C3.out.lies.reads hvl HFT.out).mono ?_
   rintro en w5 ⟨rfl,hx4⟩
   rw[HLB.out]
   replace C3:=hJ (C3.out.ext hx4);replace M3:=hJ (M3.out.ext hx4);replace T3:=hJ (T3.out.ext hx4);replace R3:=hJ (R3.out.ext hx4);replace HZ:=hJ (HZ.out.trans hx4);clear hx4
   clear q0 q1 q2 q3 q4 q5 q6 q7 q8 b0 b1 b2 b3 b4 b5 t0 t1;obtain⟨q0,q1,q2,q3,q4,q5,q6,q7,q8⟩:=qdb C3.out
   obtain⟨b0,b1,b2,b3,b4,b5⟩:=six M3.out
   obtain⟨t0,t1⟩:=qhk T3.out
   cases lb with
   | false=>
    exact qgU
   | true=>
    exact qgU
 case rest=>
  obtain⟨rfl,HC0,HM0,HT0,HR0,HZ0⟩:=hcut
  clear C3 M3 T3 R3 HZ;obtain⟨C3,M3,T3,R3,HZ⟩:Hid (CS wc B col p m)∧Hid (BIs wc w.heap.size #[Jq 14,Jq num,Jq first,Jq mst,.string (qax pay),.slice Ae ents.length ce] 110)∧Hid (BIs wc r_t #[Jq nv,.slice Ax xs.length cx] 46)∧Hid (Row wc Ax (qam xs))∧Hid (Ext w wc):=⟨HC0,HM0,HT0,HR0,HZ0⟩
  clear HC0 HM0 HT0 HR0 HZ0;obtain⟨W1,rfl⟩:∃x,x=wc:=⟨wc,rfl⟩
  cases c1 with
  | false=>
   rw[if_neg (by simp)] at HR
   obtain⟨q0,q1,q2,q3,q4,q5,q6,q7,q8⟩:=qdb C3.out
   obtain⟨b0,b1,b2,b3,b4,b5⟩:=six M3.out
   obtain⟨t0,t1⟩:=qhk T3.out
   go_upto_region 15 with fail
   clear q0 q1 q2 q3 q4 q5 q6 q7 q8 b0 b1 b2 b3 b4 b5 t0 t1;refine qac 33 (fun w'=>Cq w' p 0 (Jq m.b.self)∧Cq w' p 1 (.slice m.b.Av m.b.vs.length m.b.cv)∧Cq w' p 2 (Jq m.b.base)∧Cq w' p 3 (.slice m.b.Al m.b.log.length m.b.cl)∧Cq w' p 4 (Jq m.b.stable)∧Cq w' p 5 (Jq m.b.sent)∧Cq w' p 6 (.slice m.b.Ap m.b.pend.length m.b.cp)∧Cq w' p 7 (.slice m.b.Am m.b.marks.length m.b.cm)∧Cq w' p 8 (.slice m.b.Af m.b.fls.length m.b.cf)∧w'.cell? (Pw w 0)=some (Jq 14)∧Cq w' r_t 1 (.slice Ax xs.length cx)) (by kernel_rfl) ⟨(C3.out.ext Ext.drew1).cell 0,(C3.out.ext Ext.drew1).cell 1,(C3.out.ext Ext.drew1).cell 2,(C3.out.ext Ext.drew1).cell 3,(C3.out.ext Ext.drew1).cell 4,(C3.out.ext Ext.drew1).cell 5,(C3.out.ext Ext.drew1).cell 6,(C3.out.ext Ext.drew1).cell 7,(C3.out.ext Ext.drew1).cell 8,(M3.out.ext Ext.drew1).cell 0,(T3.out.ext Ext.drew1).cell 1⟩ (fun hHeld=>?_)
   have hx4:Ext W1 W1.drew:=Ext.drew1
   replace C3:=hJ (C3.out.ext hx4);replace M3:=hJ (M3.out.ext hx4);replace T3:=hJ (T3.out.ext hx4);replace R3:=hJ (R3.out.ext hx4);replace HZ:=hJ (HZ.out.trans hx4);clear hx4
   generalize W1.drew=u1 at *
   exact qjo
  | true=>
   rw[if_pos rfl] at HR
   obtain⟨q0,q1,q2,q3,q4,q5,q6,q7,q8⟩:=qdb C3.out
   obtain⟨b0,b1,b2,b3,b4,b5⟩:=six M3.out
   obtain⟨t0,t1⟩:=qhk T3.out
   go_upto_region 12 with fail
   clear q0 q1 q2 q3 q4 q5 q6 q7 q8 b0 b1 b2 b3 b4 b5 t0 t1;have hx4:Ext W1 (W1.alloc (.cells #[Jq fr,Jq first,.slice Ae ents.length ce] 80)):=Ext.new _ _
   have F3:Hid (BIs (W1.alloc (.cells #[Jq fr,Jq first,.slice Ae ents.length ce] 80)) W1.heap.size #[Jq fr,Jq first,.slice Ae ents.length ce] 80):=hJ (BIs.new _ _ _)
   replace C3:=hJ (C3.out.ext hx4);replace M3:=hJ (M3.out.ext hx4);replace T3:=hJ (T3.out.ext hx4);replace R3:=hJ (R3.out.ext hx4);replace HZ:=hJ (HZ.out.trans hx4);clear hx4
   generalize (W1.alloc (.cells #[Jq fr,Jq first,.slice Ae ents.length ce] 80))=u0 at *
   generalize W1.heap.size=r_f at *
   go_cut [131] (fun s wx=>s=.bool pb∧Hid (CS wx B col p m)∧Hid (BIs wx r_f #[Jq fr,Jq first,.slice Ae ents.length ce] 80)∧Hid (Ext w wx))
   case first=>
    refine qac 7 (fun w'=>Cq w' p 1 (.slice m.b.Av m.b.vs.length m.b.cv)∧Cq w' r_f 0 (Jq fr)∧Cq w' r_f 1 (Jq first)∧Cq w' r_f 2 (.slice Ae ents.length ce)) (by kernel_rfl) ⟨(C3.out.ext Ext.drew1).cell 1,(F3.out.ext Ext.drew1).cell 0,(F3.out.ext Ext.drew1).cell 1,(F3.out.ext Ext.drew1).cell 2⟩ (fun hHeld=>?_)
    have hx4:Ext u0 u0.drew:=Ext.drew1
    replace F3:=hJ (F3.out.ext hx4)
    replace C3:=hJ (C3.out.ext hx4);replace M3:=hJ (M3.out.ext hx4);replace T3:=hJ (T3.out.ext hx4);replace R3:=hJ (R3.out.ext hx4);replace HZ:=hJ (HZ.out.trans hx4);clear hx4
    generalize u0.drew=u1 at *
    refine E_t 0 125 ?_;refine E_t 1 126 ?_;refine E_t 2 127 ?_;refine E_t 3 128 ?_;refine E_t 4 129 ?_;refine E_t 5 130 ?_;refine E_r 6 (some 131) fun K hK=>?_
    go_simp;go_at_call 145;refine(qsQ m.b.Av m.b.cv m.b.vs fr first Ae ce ents _ C3.out.lies.vs (HO.out.row.ext HZ.out) (by omega) hvlt HFT.out.vx HEP.out pb HPB.out).mono ?_
    rintro en w6 ⟨rfl,hx4⟩
    replace F3:=hJ (F3.out.ext hx4)
    replace C3:=hJ (C3.out.ext hx4);replace M3:=hJ (M3.out.ext hx4);replace T3:=hJ (T3.out.ext hx4);replace R3:=hJ (R3.out.ext hx4);replace HZ:=hJ (HZ.out.trans hx4);clear hx4
    clear hHeld;refine hK.out _ _ ⟨C3.out.cell 1,F3.out.cell 0,F3.out.cell 1,F3.out.cell 2⟩ (fun hHeld=>?_)
    clear hK K;try simp only[Act.put,aP1,aP2,aP3]
    refine qaE (by kernel_rfl) (by rfl) ?_
    go_wp2;go_meet
    case rel=>exact⟨rfl,C3,F3,HZ⟩
   case rest=>
    obtain⟨rfl,HC0,HF0,HZ0⟩:=hcut
    clear C3 M3 T3 R3 F3 HZ;obtain⟨C3,F3,HZ⟩:Hid (CS wc B col p m)∧Hid (BIs wc r_f #[Jq fr,Jq first,.slice Ae ents.length ce] 80)∧Hid (Ext w wc):=⟨HC0,HF0,HZ0⟩
    clear HC0 HF0 HZ0;cases pb with
    | false=>
     rw[if_neg (by simp)] at HR
     go_wp2;go_end0;rw[HR.out]
     exact⟨m,col,rfl,C3.out,rfl,Stp.ext' H.out.Bsz HZ.out⟩
    | true=>
     rw[if_pos rfl] at HR
     have f0:wc.cell? (Pq r_f 0)=some (Jq fr):=F3.out.cell 0
     have f1:wc.cell? (Pq r_f 1)=some (Jq first):=F3.out.cell 1
     have f2:wc.cell? (Pq r_f 2)=some (.slice Ae ents.length ce):=F3.out.cell 2
     go_wp2_with fail
     refine(qf9 m B col p fr first Ae ce ents wc C3.out (HO.out.row.ext HZ.out) (by omega) (fun e he=>Nat.le_trans (HEP.out e he) (by omega)) (by omega)).mono ?_
     rintro en w6 ⟨m6,col6,rfl,hc6,hm6,hs6⟩
     have C6:=hJ hc6;have S6:=hJ hs6;have HM6:=hJ hm6
     clear hc6 hs6 hm6 f0 f1 f2;obtain⟨hi1,hi2,hi3,hi4⟩:=qk1 OK.out HM6.out hfn HVX.out
     go_wp2_with fail
     refine(qeN m6 B col6 p w6 C6.out hi1 hi2 hi3 hi4).mono ?_
     rintro en w7 ⟨m7,col7,rfl,hc7,hm7,hs7⟩
     go_wp2;go_end0;rw[HR.out]
     exact⟨m7,col7,rfl,hc7,by rw[hm7,HM6.out],((Stp.ext' H.out.Bsz HZ.out).trans S6.out).trans hs7⟩
set_option maxHeartbeats 2000000 in
theorem qpg(m:CM)(B:Nat)(col:Nat→Nat)(p:Nat)(fr kind num first mst:Int)(pay:List UInt8)(ents:List Ent)(Ae:Option Addr)(ce:Nat)(w:World)(h:CS w B col p m)(ok:OkS m.b.st)(hvx:∀v∈m.b.vs,v.xs.length≤1000)(ho:qaz.Own w B (.slice Ae ents.length ce) ents)(hce:ColV col 2 (.slice Ae ents.length ce))(hep:∀e∈ents,e.p.length≤6000)
  (hk11:(kind == 11)=false) (hk12:(kind == 12)=false) (hk13:(kind == 13)=false) (hk14:(kind == 14)=false) (hk15:(kind == 15)=false) :
  Calls Tryz.prog 73 #[.pointer (some (Pq p 0)),Jq fr,qoK ⟨kind,num,first,mst,pay,ents⟩ Ae ce] w (qhw B col p w (qaP m.cs fr ⟨kind,num,first,mst,pay,ents⟩)):=by
 have H:=hJ h;have OK:=hJ ok;have HVX:=hJ hvx;have HO:=hJ ho;have HCE:=hJ hce;have HEP:=hJ hep
 have E0:Hid (Ext w (w.alloc (.cells #[Jq kind,Jq num,Jq first,Jq mst,.string (qax pay),.slice Ae ents.length ce] 110))):=hJ (Ext.new _ _)
 have M0:Hid (BIs (w.alloc (.cells #[Jq kind,Jq num,Jq first,Jq mst,.string (qax pay),.slice Ae ents.length ce] 110)) w.heap.size #[Jq kind,Jq num,Jq first,Jq mst,.string (qax pay),.slice Ae ents.length ce] 110):=hJ (BIs.new _ _ _)
 have hp:=h.lt
 have q1:w.cell? (Pq p 1)=some (.slice m.b.Av m.b.vs.length m.b.cv):=h.cell 1
 have hvl:0<m.b.vs.length:=by have h1:=ok.vs;simpa[BM.st,qaI] using h1
 have HFT:=hJ h.fits
 have hfv:=h.fits.vs
 obtain⟨v,hv,hlv,hcall⟩:=qfa m.b.Av m.b.cv m.b.vs (w.alloc (.cells #[Jq kind,Jq num,Jq first,Jq mst,.string (qax pay),.slice Ae ents.length ce] 110)) (h.ext E0.out).lies.vs hvl (by omega)
 have HXR:Hid (Row (w.alloc (.cells #[Jq kind,Jq num,Jq first,Jq mst,.string (qax pay),.slice Ae ents.length ce] 110)) v.A (qam v.xs)):=hJ (((h.ext E0.out).lies.vs.2 v hv).2 (v.A,qam v.xs) (by simp[qas]))
 have hx16:v.xs.length≤16:=by
  have h1:=(qep ok).2.1
  have h2:qaf m.b.st.views=(v.n,v.xs):=hlv
  rw[h2] at h1;exact h1
 have HLV:Hid (qaf m.b.st.views=(v.n,v.xs)):=hJ hlv
 have HCALL:=hJ hcall
 obtain⟨nv,Ax,cx,xs⟩:=v
 simp only at HXR hx16 HLV HCALL
 have hfd:=qbm
 obtain⟨hb,hhb⟩:∃b,qbr xs fr=b:=⟨_,rfl⟩
 obtain⟨hs,hhs⟩:∃b,qbr xs m.b.self=b:=⟨_,rfl⟩
 obtain⟨sq,hsq⟩:∃s,qbl (nv,xs)=s:=⟨_,rfl⟩
 obtain⟨ob,hob⟩:∃b,qaL m.b.st=b:=⟨_,rfl⟩
 obtain⟨lb,hlb⟩:∃b,qaN m.b.st=b:=⟨_,rfl⟩
 obtain⟨pb,hpb⟩:∃b,qbL m.b.st.views (fr,first,ents)=b:=⟨_,rfl⟩
 have HHB:=hJ hhb;have HHS:=hJ hhs;have HSQ:=hJ hsq;have HOB:=hJ hob;have HLB:=hJ hlb;have HPB:=hJ hpb
 have HR:Hid (qaP m.cs fr ⟨kind,num,first,mst,pay,ents⟩=m.cs):=hJ (by
  rw[qdK m fr kind num first mst pay ents hlv,hk11,hk12,hk13,hk14,hk15]
  rfl)
 clear h ok hcall hv hlv hfv hvx ho hce hep hhb hhs hsq hob hlb hpb;go_enter Tryz.func73,Tryz.ntmps73
 go_wp2_with fail
 refine HCALL.out.mono ?_
 rintro en w1 ⟨rfl,hx1⟩
 have X1:=hJ hx1
 clear hx1 q1 HCALL;have E1:Hid (Ext w1 (w1.alloc (.cells #[Jq nv,.slice Ax xs.length cx] 46))):=hJ (Ext.new _ _)
 have T1:Hid (BIs (w1.alloc (.cells #[Jq nv,.slice Ax xs.length cx] 46)) w1.heap.size #[Jq nv,.slice Ax xs.length cx] 46):=hJ (BIs.new _ _ _)
 go_wp2_with fail
 refine(qa6 Ax cx xs fr _ (HXR.out.ext (X1.out.trans E1.out)) (by omega) hb HHB.out).mono ?_
 rintro en w1' ⟨rfl,rfl⟩
 go_wp2_with fail
 refine(qbw nv Ax cx xs _ (HXR.out.ext (X1.out.trans E1.out)) (by omega) sq HSQ.out).mono ?_
 rintro en w3 ⟨rfl,hx3⟩
 have X03:Hid (Ext (w.alloc (.cells #[Jq kind,Jq num,Jq first,Jq mst,.string (qax pay),.slice Ae ents.length ce] 110)) w3):=hJ ((X1.out.trans E1.out).trans hx3)
 have HZ:Hid (Ext w w3):=hJ (E0.out.trans X03.out)
 have C3:=hJ (H.out.ext HZ.out)
 have M3:=hJ (M0.out.ext X03.out)
 have T3:=hJ (T1.out.ext hx3)
 have R3:Hid (Row w3 Ax (qam xs)):=hJ (HXR.out.ext X03.out)
 clear hx3 X03 E1 T1 X1 E0 M0 HXR;generalize w1.heap.size=r_t at *
 go_upto_region 4 with fail
 obtain⟨W0,rfl⟩:∃x,x=w3:=⟨_,rfl⟩
 obtain⟨q0,q1,q2,q3,q4,q5,q6,q7,q8⟩:=qdb C3.out
 obtain⟨b0,b1,b2,b3,b4,b5⟩:=six M3.out
 obtain⟨t0,t1⟩:=qhk T3.out
 go_upto_region 15 with fail
 clear q0 q1 q2 q3 q4 q5 q6 q7 q8 b0 b1 b2 b3 b4 b5 t0 t1;refine qac 33 (fun w'=>Cq w' p 0 (Jq m.b.self)∧Cq w' p 1 (.slice m.b.Av m.b.vs.length m.b.cv)∧Cq w' p 2 (Jq m.b.base)∧Cq w' p 3 (.slice m.b.Al m.b.log.length m.b.cl)∧Cq w' p 4 (Jq m.b.stable)∧Cq w' p 5 (Jq m.b.sent)∧Cq w' p 6 (.slice m.b.Ap m.b.pend.length m.b.cp)∧Cq w' p 7 (.slice m.b.Am m.b.marks.length m.b.cm)∧Cq w' p 8 (.slice m.b.Af m.b.fls.length m.b.cf)∧w'.cell? (Pw w 0)=some (Jq kind)∧Cq w' r_t 1 (.slice Ax xs.length cx)) (by kernel_rfl) ⟨(C3.out.ext Ext.drew1).cell 0,(C3.out.ext Ext.drew1).cell 1,(C3.out.ext Ext.drew1).cell 2,(C3.out.ext Ext.drew1).cell 3,(C3.out.ext Ext.drew1).cell 4,(C3.out.ext Ext.drew1).cell 5,(C3.out.ext Ext.drew1).cell 6,(C3.out.ext Ext.drew1).cell 7,(C3.out.ext Ext.drew1).cell 8,(M3.out.ext Ext.drew1).cell 0,(T3.out.ext Ext.drew1).cell 1⟩ (fun hHeld=>?_)
 have hx4:Ext W0 W0.drew:=Ext.drew1
 replace C3:=hJ (C3.out.ext hx4);replace M3:=hJ (M3.out.ext hx4);replace T3:=hJ (T3.out.ext hx4);replace R3:=hJ (R3.out.ext hx4);replace HZ:=hJ (HZ.out.trans hx4);clear hx4
 generalize W0.drew=u1 at *
 exact qjo
set_option maxHeartbeats 2000000 in
theorem qnm(m:CM)(B:Nat)(col:Nat→Nat)(p:Nat)(fr num first mst:Int)(pay:List UInt8)(ents:List Ent)(Ae:Option Addr)(ce:Nat)(w:World)(h:CS w B col p m)(ok:OkS m.b.st)(hvx:∀v∈m.b.vs,v.xs.length≤1000)(ho:qaz.Own w B (.slice Ae ents.length ce) ents)(hce:ColV col 2 (.slice Ae ents.length ce))(hep:∀e∈ents,e.p.length≤6000)
  (hel:ents.length≤2000) :
  Calls Tryz.prog 73 #[.pointer (some (Pq p 0)),Jq fr,qoK ⟨15,num,first,mst,pay,ents⟩ Ae ce] w (qhw B col p w (qaP m.cs fr ⟨15,num,first,mst,pay,ents⟩)):=by
 have H:=hJ h;have OK:=hJ ok;have HVX:=hJ hvx;have HO:=hJ ho;have HCE:=hJ hce;have HEP:=hJ hep
 have E0:Hid (Ext w (w.alloc (.cells #[Jq 15,Jq num,Jq first,Jq mst,.string (qax pay),.slice Ae ents.length ce] 110))):=hJ (Ext.new _ _)
 have M0:Hid (BIs (w.alloc (.cells #[Jq 15,Jq num,Jq first,Jq mst,.string (qax pay),.slice Ae ents.length ce] 110)) w.heap.size #[Jq 15,Jq num,Jq first,Jq mst,.string (qax pay),.slice Ae ents.length ce] 110):=hJ (BIs.new _ _ _)
 have hp:=h.lt
 have q1:w.cell? (Pq p 1)=some (.slice m.b.Av m.b.vs.length m.b.cv):=h.cell 1
 have hvl:0<m.b.vs.length:=by have h1:=ok.vs;simpa[BM.st,qaI] using h1
 have HFT:=hJ h.fits
 have hfv:=h.fits.vs
 obtain⟨v,hv,hlv,hcall⟩:=qfa m.b.Av m.b.cv m.b.vs (w.alloc (.cells #[Jq 15,Jq num,Jq first,Jq mst,.string (qax pay),.slice Ae ents.length ce] 110)) (h.ext E0.out).lies.vs hvl (by omega)
 have HXR:Hid (Row (w.alloc (.cells #[Jq 15,Jq num,Jq first,Jq mst,.string (qax pay),.slice Ae ents.length ce] 110)) v.A (qam v.xs)):=hJ (((h.ext E0.out).lies.vs.2 v hv).2 (v.A,qam v.xs) (by simp[qas]))
 have hx16:v.xs.length≤16:=by
  have h1:=(qep ok).2.1
  have h2:qaf m.b.st.views=(v.n,v.xs):=hlv
  rw[h2] at h1;exact h1
 have HLV:Hid (qaf m.b.st.views=(v.n,v.xs)):=hJ hlv
 have HCALL:=hJ hcall
 obtain⟨nv,Ax,cx,xs⟩:=v
 simp only at HXR hx16 HLV HCALL
 have hfd:=qbm
 obtain⟨hb,hhb⟩:∃b,qbr xs fr=b:=⟨_,rfl⟩
 obtain⟨hs,hhs⟩:∃b,qbr xs m.b.self=b:=⟨_,rfl⟩
 obtain⟨sq,hsq⟩:∃s,qbl (nv,xs)=s:=⟨_,rfl⟩
 obtain⟨ob,hob⟩:∃b,qaL m.b.st=b:=⟨_,rfl⟩
 obtain⟨lb,hlb⟩:∃b,qaN m.b.st=b:=⟨_,rfl⟩
 obtain⟨pb,hpb⟩:∃b,qbL m.b.st.views (fr,first,ents)=b:=⟨_,rfl⟩
 have HHB:=hJ hhb;have HHS:=hJ hhs;have HSQ:=hJ hsq;have HOB:=hJ hob;have HLB:=hJ hlb;have HPB:=hJ hpb
 have HR:Hid (qaP m.cs fr ⟨15,num,first,mst,pay,ents⟩=if (!ob&&(!lb&&(fr == sq&&hs)))=true then qbt m.cs ⟨15,num,first,mst,pay,ents⟩ else m.cs):=hJ (by
  subst hhb hhs hsq hob hlb hpb
  rw[qdK m fr 15 num first mst pay ents hlv]
  rfl)
 obtain⟨c1,hc1⟩:∃x,x=(!ob&&(!lb&&(fr == sq&&hs))):=⟨_,rfl⟩
 rw[←hc1] at HR
 have HC1:=hJ hc1
 clear hc1;clear h ok hcall hv hlv hfv hvx ho hce hep hhb hhs hsq hob hlb hpb;go_enter Tryz.func73,Tryz.ntmps73
 go_wp2_with fail
 refine HCALL.out.mono ?_
 rintro en w1 ⟨rfl,hx1⟩
 have X1:=hJ hx1
 clear hx1 q1 HCALL;have E1:Hid (Ext w1 (w1.alloc (.cells #[Jq nv,.slice Ax xs.length cx] 46))):=hJ (Ext.new _ _)
 have T1:Hid (BIs (w1.alloc (.cells #[Jq nv,.slice Ax xs.length cx] 46)) w1.heap.size #[Jq nv,.slice Ax xs.length cx] 46):=hJ (BIs.new _ _ _)
 go_wp2_with fail
 refine(qa6 Ax cx xs fr _ (HXR.out.ext (X1.out.trans E1.out)) (by omega) hb HHB.out).mono ?_
 rintro en w1' ⟨rfl,rfl⟩
 go_wp2_with fail
 refine(qbw nv Ax cx xs _ (HXR.out.ext (X1.out.trans E1.out)) (by omega) sq HSQ.out).mono ?_
 rintro en w3 ⟨rfl,hx3⟩
 have X03:Hid (Ext (w.alloc (.cells #[Jq 15,Jq num,Jq first,Jq mst,.string (qax pay),.slice Ae ents.length ce] 110)) w3):=hJ ((X1.out.trans E1.out).trans hx3)
 have HZ:Hid (Ext w w3):=hJ (E0.out.trans X03.out)
 have C3:=hJ (H.out.ext HZ.out)
 have M3:=hJ (M0.out.ext X03.out)
 have T3:=hJ (T1.out.ext hx3)
 have R3:Hid (Row w3 Ax (qam xs)):=hJ (HXR.out.ext X03.out)
 clear hx3 X03 E1 T1 X1 E0 M0 HXR;generalize w1.heap.size=r_t at *
 go_upto_region 4 with fail
 obtain⟨W0,rfl⟩:∃x,x=w3:=⟨_,rfl⟩
 obtain⟨q0,q1,q2,q3,q4,q5,q6,q7,q8⟩:=qdb C3.out
 obtain⟨b0,b1,b2,b3,b4,b5⟩:=six M3.out
 obtain⟨t0,t1⟩:=qhk T3.out
 go_upto_region 15 with fail
 clear q0 q1 q2 q3 q4 q5 q6 q7 q8 b0 b1 b2 b3 b4 b5 t0 t1;go_cut [8,137] (fun s8 s wx=>s8=.bool (fr == sq)∧s=.bool c1∧Hid (CS wx B col p m)∧Hid (BIs wx w.heap.size #[Jq 15,Jq num,Jq first,Jq mst,.string (qax pay),.slice Ae ents.length ce] 110)∧Hid (Ext w wx))
 case first=>
  cases ob with
  | true=>
   refine qac 33 (fun w'=>Cq w' p 0 (Jq m.b.self)∧Cq w' p 1 (.slice m.b.Av m.b.vs.length m.b.cv)∧Cq w' p 2 (Jq m.b.base)∧Cq w' p 3 (.slice m.b.Al m.b.log.length m.b.cl)∧Cq w' p 4 (Jq m.b.stable)∧Cq w' p 5 (Jq m.b.sent)∧Cq w' p 6 (.slice m.b.Ap m.b.pend.length m.b.cp)∧Cq w' p 7 (.slice m.b.Am m.b.marks.length m.b.cm)∧Cq w' p 8 (.slice m.b.Af m.b.fls.length m.b.cf)∧w'.cell? (Pw w 0)=some (Jq 15)∧Cq w' r_t 1 (.slice Ax xs.length cx)) (by kernel_rfl) ⟨(C3.out.ext Ext.drew1).cell 0,(C3.out.ext Ext.drew1).cell 1,(C3.out.ext Ext.drew1).cell 2,(C3.out.ext Ext.drew1).cell 3,(C3.out.ext Ext.drew1).cell 4,(C3.out.ext Ext.drew1).cell 5,(C3.out.ext Ext.drew1).cell 6,(C3.out.ext Ext.drew1).cell 7,(C3.out.ext Ext.drew1).cell 8,(M3.out.ext Ext.drew1).cell 0,(T3.out.ext Ext.drew1).cell 1⟩ (fun hHeld=>?_)
   have hx4:Ext W0 W0.drew:=Ext.drew1
   replace C3:=hJ (C3.out.ext hx4);replace M3:=hJ (M3.out.ext hx4);replace T3:=hJ (T3.out.ext hx4);replace R3:=hJ (R3.out.ext hx4);replace HZ:=hJ (HZ.out.trans hx4);clear hx4
   generalize W0.drew=u1 at *
   refine E_t 0 138 ?_;refine E_t 1 139 ?_;refine E_t 2 140 ?_;refine E_t 3 141 ?_;refine E_t 4 142 ?_;refine E_t 5 143 ?_;refine E_t 6 144 ?_;refine E_t 7 145 ?_;refine E_r 8 (some 146) fun K hK=>?_
   go_simp;go_at_call 40;refine(open_b m.b _ C3.out.lies.reads hvl HFT.out _ HOB.out).mono ?_
   rintro en w8 ⟨rfl,hx4⟩
   replace C3:=hJ (C3.out.ext hx4);replace M3:=hJ (M3.out.ext hx4);replace T3:=hJ (T3.out.ext hx4);replace R3:=hJ (R3.out.ext hx4);replace HZ:=hJ (HZ.out.trans hx4);clear hx4
   clear hHeld;refine hK.out _ _ ⟨C3.out.cell 0,C3.out.cell 1,C3.out.cell 2,C3.out.cell 3,C3.out.cell 4,C3.out.cell 5,C3.out.cell 6,C3.out.cell 7,C3.out.cell 8,M3.out.cell 0,T3.out.cell 1⟩ (fun hHeld=>?_)
   clear hK K;try simp only[Act.put,aP1,aP2,aP3]
   refine E_t 9 147 ?_;refine E_t 10 148 ?_;refine E_t 11 149 ?_;refine E_s 12 150 ?_;refine E_s 13 151 ?_;refine E_s 14 152 ?_;refine E_s 15 153 ?_;refine E_s 16 154 ?_;refine E_s 17 155 ?_;refine E_t 18 156 ?_;refine E_t 19 157 ?_;refine E_s 20 158 ?_;refine E_t 21 159 ?_;refine E_t 22 160 ?_;refine E_s 23 161 ?_;refine E_s 24 162 ?_;refine E_s 25 163 ?_;refine E_s 26 164 ?_;refine E_s 27 165 ?_;refine E_s 28 166 ?_;refine E_s 29 167 ?_;refine E_s 30 168 ?_;refine E_t 31 169 ?_;refine E_t 32 137 ?_;refine qaE (by kernel_rfl) (by rfl) ?_
   go_wp2;go_meet
   case rel=>exact⟨rfl,by rw[HC1.out];rfl,C3,M3,HZ⟩
  | false=>
   cases lb with
   | true=>
    refine qac 33 (fun w'=>Cq w' p 0 (Jq m.b.self)∧Cq w' p 1 (.slice m.b.Av m.b.vs.length m.b.cv)∧Cq w' p 2 (Jq m.b.base)∧Cq w' p 3 (.slice m.b.Al m.b.log.length m.b.cl)∧Cq w' p 4 (Jq m.b.stable)∧Cq w' p 5 (Jq m.b.sent)∧Cq w' p 6 (.slice m.b.Ap m.b.pend.length m.b.cp)∧Cq w' p 7 (.slice m.b.Am m.b.marks.length m.b.cm)∧Cq w' p 8 (.slice m.b.Af m.b.fls.length m.b.cf)∧w'.cell? (Pw w 0)=some (Jq 15)∧Cq w' r_t 1 (.slice Ax xs.length cx)) (by kernel_rfl) ⟨(C3.out.ext Ext.drew1).cell 0,(C3.out.ext Ext.drew1).cell 1,(C3.out.ext Ext.drew1).cell 2,(C3.out.ext Ext.drew1).cell 3,(C3.out.ext Ext.drew1).cell 4,(C3.out.ext Ext.drew1).cell 5,(C3.out.ext Ext.drew1).cell 6,(C3.out.ext Ext.drew1).cell 7,(C3.out.ext Ext.drew1).cell 8,(M3.out.ext Ext.drew1).cell 0,(T3.out.ext Ext.drew1).cell 1⟩ (fun hHeld=>?_)
    have hx4:Ext W0 W0.drew:=Ext.drew1
    replace C3:=hJ (C3.out.ext hx4);replace M3:=hJ (M3.out.ext hx4);replace T3:=hJ (T3.out.ext hx4);replace R3:=hJ (R3.out.ext hx4);replace HZ:=hJ (HZ.out.trans hx4);clear hx4
    generalize W0.drew=u1 at *
    refine E_t 0 138 ?_;refine E_t 1 139 ?_;refine E_t 2 140 ?_;refine E_t 3 141 ?_;refine E_t 4 142 ?_;refine E_t 5 143 ?_;refine E_t 6 144 ?_;refine E_t 7 145 ?_;refine E_r 8 (some 146) fun K hK=>?_
    go_simp;go_at_call 40;refine(open_b m.b _ C3.out.lies.reads hvl HFT.out _ HOB.out).mono ?_
    rintro en w8 ⟨rfl,hx4⟩
    replace C3:=hJ (C3.out.ext hx4);replace M3:=hJ (M3.out.ext hx4);replace T3:=hJ (T3.out.ext hx4);replace R3:=hJ (R3.out.ext hx4);replace HZ:=hJ (HZ.out.trans hx4);clear hx4
    clear hHeld;refine hK.out _ _ ⟨C3.out.cell 0,C3.out.cell 1,C3.out.cell 2,C3.out.cell 3,C3.out.cell 4,C3.out.cell 5,C3.out.cell 6,C3.out.cell 7,C3.out.cell 8,M3.out.cell 0,T3.out.cell 1⟩ (fun hHeld=>?_)
    clear hK K;try simp only[Act.put,aP1,aP2,aP3]
    refine E_t 9 147 ?_;refine E_t 10 148 ?_;refine E_t 11 149 ?_;refine E_t 12 150 ?_;refine E_t 13 151 ?_;refine E_t 14 152 ?_;refine E_t 15 153 ?_;refine E_r 16 (some 154) fun K hK=>?_
    go_simp;go_at_call 41;refine(qiB m.b _ C3.out.lies.reads hvl HFT.out _ HLB.out).mono ?_
    rintro en w9 ⟨rfl,hx4⟩
    replace C3:=hJ (C3.out.ext hx4);replace M3:=hJ (M3.out.ext hx4);replace T3:=hJ (T3.out.ext hx4);replace R3:=hJ (R3.out.ext hx4);replace HZ:=hJ (HZ.out.trans hx4);clear hx4
    clear hHeld;refine hK.out _ _ ⟨C3.out.cell 0,C3.out.cell 1,C3.out.cell 2,C3.out.cell 3,C3.out.cell 4,C3.out.cell 5,C3.out.cell 6,C3.out.cell 7,C3.out.cell 8,M3.out.cell 0,T3.out.cell 1⟩ (fun hHeld=>?_)
    clear hK K;try simp only[Act.put,aP1,aP2,aP3]
    refine E_t 17 155 ?_;refine E_t 18 156 ?_;refine E_t 19 157 ?_;refine E_s 20 158 ?_;refine E_t 21 159 ?_;refine E_t 22 160 ?_;refine E_s 23 161 ?_;refine E_s 24 162 ?_;refine E_s 25 163 ?_;refine E_s 26 164 ?_;refine E_s 27 165 ?_;refine E_s 28 166 ?_;refine E_s 29 167 ?_;refine E_s 30 168 ?_;refine E_t 31 169 ?_;refine E_t 32 137 ?_;refine qaE (by kernel_rfl) (by rfl) ?_
    go_wp2;go_meet
    case rel=>exact⟨rfl,by rw[HC1.out];rfl,C3,M3,HZ⟩
   | false=>
    cases hq:(fr == sq) with
    | false=>
     refine qac 33 (fun w'=>Cq w' p 0 (Jq m.b.self)∧Cq w' p 1 (.slice m.b.Av m.b.vs.length m.b.cv)∧Cq w' p 2 (Jq m.b.base)∧Cq w' p 3 (.slice m.b.Al m.b.log.length m.b.cl)∧Cq w' p 4 (Jq m.b.stable)∧Cq w' p 5 (Jq m.b.sent)∧Cq w' p 6 (.slice m.b.Ap m.b.pend.length m.b.cp)∧Cq w' p 7 (.slice m.b.Am m.b.marks.length m.b.cm)∧Cq w' p 8 (.slice m.b.Af m.b.fls.length m.b.cf)∧w'.cell? (Pw w 0)=some (Jq 15)∧Cq w' r_t 1 (.slice Ax xs.length cx)) (by kernel_rfl) ⟨(C3.out.ext Ext.drew1).cell 0,(C3.out.ext Ext.drew1).cell 1,(C3.out.ext Ext.drew1).cell 2,(C3.out.ext Ext.drew1).cell 3,(C3.out.ext Ext.drew1).cell 4,(C3.out.ext Ext.drew1).cell 5,(C3.out.ext Ext.drew1).cell 6,(C3.out.ext Ext.drew1).cell 7,(C3.out.ext Ext.drew1).cell 8,(M3.out.ext Ext.drew1).cell 0,(T3.out.ext Ext.drew1).cell 1⟩ (fun hHeld=>?_)
     have hx4:Ext W0 W0.drew:=Ext.drew1
     replace C3:=hJ (C3.out.ext hx4);replace M3:=hJ (M3.out.ext hx4);replace T3:=hJ (T3.out.ext hx4);replace R3:=hJ (R3.out.ext hx4);replace HZ:=hJ (HZ.out.trans hx4);clear hx4
     generalize W0.drew=u1 at *
     refine E_t 0 138 ?_;refine E_t 1 139 ?_;refine E_t 2 140 ?_;refine E_t 3 141 ?_;refine E_t 4 142 ?_;refine E_t 5 143 ?_;refine E_t 6 144 ?_;refine E_t 7 145 ?_;refine E_r 8 (some 146) fun K hK=>?_
     go_simp;go_at_call 40;refine(open_b m.b _ C3.out.lies.reads hvl HFT.out _ HOB.out).mono ?_
     rintro en w8 ⟨rfl,hx4⟩
     replace C3:=hJ (C3.out.ext hx4);replace M3:=hJ (M3.out.ext hx4);replace T3:=hJ (T3.out.ext hx4);replace R3:=hJ (R3.out.ext hx4);replace HZ:=hJ (HZ.out.trans hx4);clear hx4
     clear hHeld;refine hK.out _ _ ⟨C3.out.cell 0,C3.out.cell 1,C3.out.cell 2,C3.out.cell 3,C3.out.cell 4,C3.out.cell 5,C3.out.cell 6,C3.out.cell 7,C3.out.cell 8,M3.out.cell 0,T3.out.cell 1⟩ (fun hHeld=>?_)
     clear hK K;try simp only[Act.put,aP1,aP2,aP3]
     refine E_t 9 147 ?_;refine E_t 10 148 ?_;refine E_t 11 149 ?_;refine E_t 12 150 ?_;refine E_t 13 151 ?_;refine E_t 14 152 ?_;refine E_t 15 153 ?_;refine E_r 16 (some 154) fun K hK=>?_
     go_simp;go_at_call 41;refine(qiB m.b _ C3.out.lies.reads hvl HFT.out _ HLB.out).mono ?_
     rintro en w9 ⟨rfl,hx4⟩
     replace C3:=hJ (C3.out.ext hx4);replace M3:=hJ (M3.out.ext hx4);replace T3:=hJ (T3.out.ext hx4);replace R3:=hJ (R3.out.ext hx4);replace HZ:=hJ (HZ.out.trans hx4);clear hx4
     clear hHeld;refine hK.out _ _ ⟨C3.out.cell 0,C3.out.cell 1,C3.out.cell 2,C3.out.cell 3,C3.out.cell 4,C3.out.cell 5,C3.out.cell 6,C3.out.cell 7,C3.out.cell 8,M3.out.cell 0,T3.out.cell 1⟩ (fun hHeld=>?_)
     clear hK K;try simp only[Act.put,aP1,aP2,aP3]
     refine E_t 17 155 ?_;refine E_t 18 156 ?_;refine E_t 19 157 ?_;refine E_t 20 158 ?_;refine E_t 21 159 ?_;refine E_t 22 160 ?_;refine E_s 23 161 ?_;refine E_s 24 162 ?_;refine E_s 25 163 ?_;refine E_s 26 164 ?_;refine E_s 27 165 ?_;refine E_s 28 166 ?_;refine E_s 29 167 ?_;refine E_s 30 168 ?_;refine E_t 31 169 ?_;refine E_t 32 137 ?_;refine qaE (by kernel_rfl) (by rfl) ?_
     go_wp2;go_meet
     case rel=>exact⟨by rw[hq],by rw[HC1.out];rw[hq];rfl,C3,M3,HZ⟩
    | true=>
     refine qac 33 (fun w'=>Cq w' p 0 (Jq m.b.self)∧Cq w' p 1 (.slice m.b.Av m.b.vs.length m.b.cv)∧Cq w' p 2 (Jq m.b.base)∧Cq w' p 3 (.slice m.b.Al m.b.log.length m.b.cl)∧Cq w' p 4 (Jq m.b.stable)∧Cq w' p 5 (Jq m.b.sent)∧Cq w' p 6 (.slice m.b.Ap m.b.pend.length m.b.cp)∧Cq w' p 7 (.slice m.b.Am m.b.marks.length m.b.cm)∧Cq w' p 8 (.slice m.b.Af m.b.fls.length m.b.cf)∧w'.cell? (Pw w 0)=some (Jq 15)∧Cq w' r_t 1 (.slice Ax xs.length cx)) (by kernel_rfl) ⟨(C3.out.ext Ext.drew1).cell 0,(C3.out.ext Ext.drew1).cell 1,(C3.out.ext Ext.drew1).cell 2,(C3.out.ext Ext.drew1).cell 3,(C3.out.ext Ext.drew1).cell 4,(C3.out.ext Ext.drew1).cell 5,(C3.out.ext Ext.drew1).cell 6,(C3.out.ext Ext.drew1).cell 7,(C3.out.ext Ext.drew1).cell 8,(M3.out.ext Ext.drew1).cell 0,(T3.out.ext Ext.drew1).cell 1⟩ (fun hHeld=>?_)
     have hx4:Ext W0 W0.drew:=Ext.drew1
     replace C3:=hJ (C3.out.ext hx4);replace M3:=hJ (M3.out.ext hx4);replace T3:=hJ (T3.out.ext hx4);replace R3:=hJ (R3.out.ext hx4);replace HZ:=hJ (HZ.out.trans hx4);clear hx4
     generalize W0.drew=u1 at *
     refine E_t 0 138 ?_;refine E_t 1 139 ?_;refine E_t 2 140 ?_;refine E_t 3 141 ?_;refine E_t 4 142 ?_;refine E_t 5 143 ?_;refine E_t 6 144 ?_;refine E_t 7 145 ?_;refine E_r 8 (some 146) fun K hK=>?_
     go_simp;go_at_call 40;refine(open_b m.b _ C3.out.lies.reads hvl HFT.out _ HOB.out).mono ?_
     rintro en w8 ⟨rfl,hx4⟩
     replace C3:=hJ (C3.out.ext hx4);replace M3:=hJ (M3.out.ext hx4);replace T3:=hJ (T3.out.ext hx4);replace R3:=hJ (R3.out.ext hx4);replace HZ:=hJ (HZ.out.trans hx4);clear hx4
     clear hHeld;refine hK.out _ _ ⟨C3.out.cell 0,C3.out.cell 1,C3.out.cell 2,C3.out.cell 3,C3.out.cell 4,C3.out.cell 5,C3.out.cell 6,C3.out.cell 7,C3.out.cell 8,M3.out.cell 0,T3.out.cell 1⟩ (fun hHeld=>?_)
     clear hK K;try simp only[Act.put,aP1,aP2,aP3]
     refine E_t 9 147 ?_;refine E_t 10 148 ?_;refine E_t 11 149 ?_;refine E_t 12 150 ?_;refine E_t 13 151 ?_;refine E_t 14 152 ?_;refine E_t 15 153 ?_;refine E_r 16 (some 154) fun K hK=>?_
     go_simp;go_at_call 41;refine(qiB m.b _ C3.out.lies.reads hvl HFT.out _ HLB.out).mono ?_
     rintro en w9 ⟨rfl,hx4⟩
     replace C3:=hJ (C3.out.ext hx4);replace M3:=hJ (M3.out.ext hx4);replace T3:=hJ (T3.out.ext hx4);replace R3:=hJ (R3.out.ext hx4);replace HZ:=hJ (HZ.out.trans hx4);clear hx4
     clear hHeld;refine hK.out _ _ ⟨C3.out.cell 0,C3.out.cell 1,C3.out.cell 2,C3.out.cell 3,C3.out.cell 4,C3.out.cell 5,C3.out.cell 6,C3.out.cell 7,C3.out.cell 8,M3.out.cell 0,T3.out.cell 1⟩ (fun hHeld=>?_)
     clear hK K;try simp only[Act.put,aP1,aP2,aP3]
     refine E_t 17 155 ?_;refine E_t 18 156 ?_;refine E_t 19 157 ?_;refine E_t 20 158 ?_;refine E_t 21 159 ?_;refine E_t 22 160 ?_;refine E_t 23 161 ?_;refine E_t 24 162 ?_;refine E_t 25 163 ?_;refine E_t 26 164 ?_;refine E_t 27 165 ?_;refine E_t 28 166 ?_;refine E_t 29 167 ?_;refine E_r 30 (some 168) fun K hK=>?_
     go_simp;go_at_call 85;refine(qa6 Ax cx xs m.b.self _ R3.out (by omega) hs HHS.out).mono ?_
     rintro en wA ⟨rfl,hx5⟩
     have hx4:=Ext.refl wA
     subst hx5
     replace C3:=hJ (C3.out.ext hx4);replace M3:=hJ (M3.out.ext hx4);replace T3:=hJ (T3.out.ext hx4);replace R3:=hJ (R3.out.ext hx4);replace HZ:=hJ (HZ.out.trans hx4);clear hx4
     clear hHeld;refine hK.out _ _ ⟨C3.out.cell 0,C3.out.cell 1,C3.out.cell 2,C3.out.cell 3,C3.out.cell 4,C3.out.cell 5,C3.out.cell 6,C3.out.cell 7,C3.out.cell 8,M3.out.cell 0,T3.out.cell 1⟩ (fun hHeld=>?_)
     clear hK K;try simp only[Act.put,aP1,aP2,aP3]
     refine E_t 31 169 ?_;refine E_t 32 137 ?_;refine qaE (by kernel_rfl) (by rfl) ?_
     go_wp2;go_meet
     case rel=>exact⟨by rw[hq],by rw[HC1.out];rw[hq];rfl,C3,M3,HZ⟩
 case rest=>
  obtain⟨rfl,rfl,HC0,HM0,HZ0⟩:=hcut
  clear C3 M3 T3 R3 HZ;obtain⟨C3,M3,HZ⟩:Hid (CS wc B col p m)∧Hid (BIs wc w.heap.size #[Jq 15,Jq num,Jq first,Jq mst,.string (qax pay),.slice Ae ents.length ce] 110)∧Hid (Ext w wc):=⟨HC0,HM0,HZ0⟩
  clear HC0 HM0 HZ0;cases c1 with
  | false=>
   rw[if_neg (by simp)] at HR
   go_wp2;go_end0;rw[HR.out]
   exact⟨m,col,rfl,C3.out,rfl,Stp.ext' H.out.Bsz HZ.out⟩
  | true=>
   rw[if_pos rfl] at HR
   obtain⟨b0,b1,b2,b3,b4,b5⟩:=six M3.out
   go_wp2_with fail
   refine(qh8 m B col p 15 num first mst pay ents Ae ce wc C3.out ⟨OK.out.st0,OK.out.st1⟩ (HO.out.ext HZ.out) HCE.out hel HEP.out).mono ?_
   rintro en w6 ⟨m6,col6,rfl,hc6,hm6,hs6⟩
   go_wp2;go_end0;rw[HR.out]
   exact⟨m6,col6,rfl,hc6,hm6,(Stp.ext' H.out.Bsz HZ.out).trans hs6⟩
theorem qmh(m:CM)(B:Nat)(col:Nat→Nat)(p:Nat)(fr kind num first mst:Int)(pay:List UInt8)(ents:List Ent)(Ae:Option Addr)(ce:Nat)(w:World)(h:CS w B col p m)(ok:OkS m.b.st)(hdl:m.dl.length≤100000)(hmn:m.b.marks.length≤50000)(hfn:m.b.fls.length≤49999)(hvx:∀v∈m.b.vs,v.xs.length≤1000)(hvlt:m.b.vs.length≤100000)
  (ho:qaz.Own w B (.slice Ae ents.length ce) ents) (hce:ColV col 2 (.slice Ae ents.length ce)) (hee:ents.length≤ce) (hel:ents.length≤2000) (hep:∀e∈ents,e.p.length≤6000) (hpp:pay.length≤1000000) (hll:m.b.log.length≤2000) (hf12:kind=12→0≤first∧first≤1099511627776) :
  Calls Tryz.prog 73 #[.pointer (some (Pq p 0)),Jq fr,qoK ⟨kind,num,first,mst,pay,ents⟩ Ae ce] w (qhw B col p w (qaP m.cs fr ⟨kind,num,first,mst,pay,ents⟩)):=by
 by_cases h1:kind=11
 ·subst h1;exact qnn m B col p fr num first mst pay ents Ae ce w h ok hvx ho hce hep hll hpp
 by_cases h2:kind=12
 ·subst h2;exact qos m B col p fr num first mst pay ents Ae ce w h ok hvx ho hce hep hdl hee hel (hf12 rfl).1 (hf12 rfl).2
 by_cases h3:kind=13
 ·subst h3;exact qoc m B col p fr num first mst pay ents Ae ce w h ok hvx ho hce hep hdl hmn
 by_cases h4:kind=14
 ·subst h4;exact qor m B col p fr num first mst pay ents Ae ce w h ok hvx ho hce hep hfn hvlt hel
 by_cases h5:kind=15
 ·subst h5;exact qnm m B col p fr num first mst pay ents Ae ce w h ok hvx ho hce hep hel
 exact qpg m B col p fr kind num first mst pay ents Ae ce w h ok hvx ho hce hep (by simpa using h1) (by simpa using h2) (by simpa using h3) (by simpa using h4) (by simpa using h5)
end Go.Proofs.YtponbabbabnaeaaGreat
