/- Part 32 of the proof: contracts of functions that the statement reaches. Conditions: as each theorem says. -/
import Derived.Test.YtponbabbabnaeaaGreatQd01
import Derived.Test.YtponbabbabnaeaaGreatQd25
import Derived.Test.YtponbabbabnaeaaGreatQd31
import Derived.Test.YtponbabbabnaeaaGreatQd15
set_option maxRecDepth 100000
namespace Go.Proofs.YtponbabbabnaeaaGreat
open Go.RowKit
set_option maxHeartbeats 2000000 in
theorem qnm(m:CM)(B:Nat)(col:Nat→Nat)(p:Nat)(fr num first mst:Int)(pay:List UInt8)(ents:List Ent)(Ae:Option Addr)(ce:Nat)(w:World)(h:CS w B col p m)(ok:OkS m.b.st)(hvx:∀v∈m.b.vs,v.xs.length≤1000)(ho:qaz.Own w B (.slice Ae ents.length ce) ents)(hce:ColV col 2 (.slice Ae ents.length ce))(hep:∀e∈ents,e.p.length≤6000)
  (hel:ents.length≤2000) :
  Calls Tryz.prog 73 #[.pointer (some (Pq p 0)),Jq fr,qoK ⟨15,num,first,mst,pay,ents⟩ Ae ce] w (qhw B col p w (qaP m.cs fr ⟨15,num,first,mst,pay,ents⟩)):=by
 have H:=hJ h;have OK:=hJ ok;have HVX:=hJ hvx;have HO:=hJ ho;have HCE:=hJ hce;have HEP:=hJ hep
 have E0:Hid (Ext w (w.alloc (.cells #[Jq 15,Jq num,Jq first,Jq mst,.string (qax pay),.slice Ae ents.length ce] 110))):=hJ (Ext.new _ _)
 have M0:Hid (BIs (w.alloc (.cells #[Jq 15,Jq num,Jq first,Jq mst,.string (qax pay),.slice Ae ents.length ce] 110)) w.heap.size #[Jq 15,Jq num,Jq first,Jq mst,.string (qax pay),.slice Ae ents.length ce] 110):=hJ (BIs.new _ _ _)
 have hp:=h.lt
 have q1:w.cell? (Pq p 1)=some (.slice m.b.Av m.b.vs.length m.b.cv):=h.cell 1
 have hvl:0<m.b.vs.length:=by have h1:=ok.vs;simpa[BM.st,qaI] using h1
 have HFT:=hJ h.fits
 have hfv:=h.fits.vs
 obtain⟨v,hv,hlv,hcall⟩:=qfa m.b.Av m.b.cv m.b.vs (w.alloc (.cells #[Jq 15,Jq num,Jq first,Jq mst,.string (qax pay),.slice Ae ents.length ce] 110)) (h.ext E0.out).lies.vs hvl (by omega)
 have HXR:Hid (Row (w.alloc (.cells #[Jq 15,Jq num,Jq first,Jq mst,.string (qax pay),.slice Ae ents.length ce] 110)) v.A (qam v.xs)):=hJ (((h.ext E0.out).lies.vs.2 v hv).2 (v.A,qam v.xs) (by simp[qas]))
 have hx16:v.xs.length≤16:=by
  have h1:=(qep ok).2.1
  have h2:qaf m.b.st.views=(v.n,v.xs):=hlv
  rw[h2] at h1;exact h1
 have HLV:Hid (qaf m.b.st.views=(v.n,v.xs)):=hJ hlv
 have HCALL:=hJ hcall
 obtain⟨nv,Ax,cx,xs⟩:=v
 simp only at HXR hx16 HLV HCALL
 have hfd:=qbm
 obtain⟨hb,hhb⟩:∃b,qbr xs fr=b:=⟨_,rfl⟩
 obtain⟨hs,hhs⟩:∃b,qbr xs m.b.self=b:=⟨_,rfl⟩
 obtain⟨sq,hsq⟩:∃s,qbl (nv,xs)=s:=⟨_,rfl⟩
 obtain⟨ob,hob⟩:∃b,qaL m.b.st=b:=⟨_,rfl⟩
 obtain⟨lb,hlb⟩:∃b,qaN m.b.st=b:=⟨_,rfl⟩
 obtain⟨pb,hpb⟩:∃b,qbL m.b.st.views (fr,first,ents)=b:=⟨_,rfl⟩
 have HHB:=hJ hhb;have HHS:=hJ hhs;have HSQ:=hJ hsq;have HOB:=hJ hob;have HLB:=hJ hlb;have HPB:=hJ hpb
 have HR:Hid (qaP m.cs fr ⟨15,num,first,mst,pay,ents⟩=if (!ob&&(!lb&&(fr == sq&&hs)))=true then qbt m.cs ⟨15,num,first,mst,pay,ents⟩ else m.cs):=hJ (by
  subst hhb hhs hsq hob hlb hpb
  rw[qdK m fr 15 num first mst pay ents hlv]
  rfl)
 obtain⟨c1,hc1⟩:∃x,x=(!ob&&(!lb&&(fr == sq&&hs))):=⟨_,rfl⟩
 rw[←hc1] at HR
 have HC1:=hJ hc1
 clear hc1;clear h ok hcall hv hlv hfv hvx ho hce hep hhb hhs hsq hob hlb hpb;go_enter Tryz.func73,Tryz.ntmps73
 go_wp2_with fail
 refine HCALL.out.mono ?_
 rintro en w1 ⟨rfl,hx1⟩
 have X1:=hJ hx1
 clear hx1 q1 HCALL;have E1:Hid (Ext w1 (w1.alloc (.cells #[Jq nv,.slice Ax xs.length cx] 46))):=hJ (Ext.new _ _)
 have T1:Hid (BIs (w1.alloc (.cells #[Jq nv,.slice Ax xs.length cx] 46)) w1.heap.size #[Jq nv,.slice Ax xs.length cx] 46):=hJ (BIs.new _ _ _)
 go_wp2_with fail
 refine(qa6 Ax cx xs fr _ (HXR.out.ext (X1.out.trans E1.out)) (by omega) hb HHB.out).mono ?_
 rintro en w1' ⟨rfl,rfl⟩
 go_wp2_with fail
 refine(qbw nv Ax cx xs _ (HXR.out.ext (X1.out.trans E1.out)) (by omega) sq HSQ.out).mono ?_
 rintro en w3 ⟨rfl,hx3⟩
 have X03:Hid (Ext (w.alloc (.cells #[Jq 15,Jq num,Jq first,Jq mst,.string (qax pay),.slice Ae ents.length ce] 110)) w3):=hJ ((X1.out.trans E1.out).trans hx3)
 have HZ:Hid (Ext w w3):=hJ (E0.out.trans X03.out)
 have C3:=hJ (H.out.ext HZ.out)
 have M3:=hJ (M0.out.ext X03.out)
 have T3:=hJ (T1.out.ext hx3)
 have R3:Hid (Row w3 Ax (qam xs)):=hJ (HXR.out.ext X03.out)
 clear hx3 X03 E1 T1 X1 E0 M0 HXR;generalize w1.heap.size=r_t at *
 go_upto_region 4 with fail
 obtain⟨W0,rfl⟩:∃x,x=w3:=⟨_,rfl⟩
 obtain⟨q0,q1,q2,q3,q4,q5,q6,q7,q8⟩:=qdb C3.out
 obtain⟨b0,b1,b2,b3,b4,b5⟩:=six M3.out
 obtain⟨t0,t1⟩:=qhk T3.out
 go_upto_region 15 with fail
 clear q0 q1 q2 q3 q4 q5 q6 q7 q8 b0 b1 b2 b3 b4 b5 t0 t1;go_cut [8,137] (fun s8 s wx=>s8=.bool (fr == sq)∧s=.bool c1∧Hid (CS wx B col p m)∧Hid (BIs wx w.heap.size #[Jq 15,Jq num,Jq first,Jq mst,.string (qax pay),.slice Ae ents.length ce] 110)∧Hid (Ext w wx))
 case first=>
  cases ob with
  | true=>
   refine qac 33 (fun w'=>Cq w' p 0 (Jq m.b.self)∧Cq w' p 1 (.slice m.b.Av m.b.vs.length m.b.cv)∧Cq w' p 2 (Jq m.b.base)∧Cq w' p 3 (.slice m.b.Al m.b.log.length m.b.cl)∧Cq w' p 4 (Jq m.b.stable)∧Cq w' p 5 (Jq m.b.sent)∧Cq w' p 6 (.slice m.b.Ap m.b.pend.length m.b.cp)∧Cq w' p 7 (.slice m.b.Am m.b.marks.length m.b.cm)∧Cq w' p 8 (.slice m.b.Af m.b.fls.length m.b.cf)∧w'.cell? (Pw w 0)=some (Jq 15)∧Cq w' r_t 1 (.slice Ax xs.length cx)) (by kernel_rfl) ⟨(C3.out.ext Ext.drew1).cell 0,(C3.out.ext Ext.drew1).cell 1,(C3.out.ext Ext.drew1).cell 2,(C3.out.ext Ext.drew1).cell 3,(C3.out.ext Ext.drew1).cell 4,(C3.out.ext Ext.drew1).cell 5,(C3.out.ext Ext.drew1).cell 6,(C3.out.ext Ext.drew1).cell 7,(C3.out.ext Ext.drew1).cell 8,(M3.out.ext Ext.drew1).cell 0,(T3.out.ext Ext.drew1).cell 1⟩ (fun hHeld=>?_)
   have hx4:Ext W0 W0.drew:=Ext.drew1
   replace C3:=hJ (C3.out.ext hx4);replace M3:=hJ (M3.out.ext hx4);replace T3:=hJ (T3.out.ext hx4);replace R3:=hJ (R3.out.ext hx4);replace HZ:=hJ (HZ.out.trans hx4);clear hx4
   generalize W0.drew=u1 at *
   refine E_t 0 138 ?_;refine E_t 1 139 ?_;refine E_t 2 140 ?_;refine E_t 3 141 ?_;refine E_t 4 142 ?_;refine E_t 5 143 ?_;refine E_t 6 144 ?_;refine E_t 7 145 ?_;refine E_r 8 (some 146) fun K hK=>?_
   go_simp;go_at_call 40;refine(open_b m.b _ C3.out.lies.reads hvl HFT.out _ HOB.out).mono ?_
   rintro en w8 ⟨rfl,hx4⟩
   replace C3:=hJ (C3.out.ext hx4);replace M3:=hJ (M3.out.ext hx4);replace T3:=hJ (T3.out.ext hx4);replace R3:=hJ (R3.out.ext hx4);replace HZ:=hJ (HZ.out.trans hx4);clear hx4
   clear hHeld;refine hK.out _ _ ⟨C3.out.cell 0,C3.out.cell 1,C3.out.cell 2,C3.out.cell 3,C3.out.cell 4,C3.out.cell 5,C3.out.cell 6,C3.out.cell 7,C3.out.cell 8,M3.out.cell 0,T3.out.cell 1⟩ (fun hHeld=>?_)
   clear hK K;try simp only[Act.put,aP1,aP2,aP3]
   refine E_t 9 147 ?_;refine E_t 10 148 ?_;refine E_t 11 149 ?_;refine E_s 12 150 ?_;refine E_s 13 151 ?_;refine E_s 14 152 ?_;refine E_s 15 153 ?_;refine E_s 16 154 ?_;refine E_s 17 155 ?_;refine E_t 18 156 ?_;refine E_t 19 157 ?_;refine E_s 20 158 ?_;refine E_t 21 159 ?_;refine E_t 22 160 ?_;refine E_s 23 161 ?_;refine E_s 24 162 ?_;refine E_s 25 163 ?_;refine E_s 26 164 ?_;refine E_s 27 165 ?_;refine E_s 28 166 ?_;refine E_s 29 167 ?_;refine E_s 30 168 ?_;refine E_t 31 169 ?_;refine E_t 32 137 ?_;refine qaE (by kernel_rfl) (by rfl) ?_
   go_wp2;go_meet
   case rel=>exact⟨rfl,by rw[HC1.out];rfl,C3,M3,HZ⟩
  | false=>
   cases lb with
   | true=>
    refine qac 33 (fun w'=>Cq w' p 0 (Jq m.b.self)∧Cq w' p 1 (.slice m.b.Av m.b.vs.length m.b.cv)∧Cq w' p 2 (Jq m.b.base)∧Cq w' p 3 (.slice m.b.Al m.b.log.length m.b.cl)∧Cq w' p 4 (Jq m.b.stable)∧Cq w' p 5 (Jq m.b.sent)∧Cq w' p 6 (.slice m.b.Ap m.b.pend.length m.b.cp)∧Cq w' p 7 (.slice m.b.Am m.b.marks.length m.b.cm)∧Cq w' p 8 (.slice m.b.Af m.b.fls.length m.b.cf)∧w'.cell? (Pw w 0)=some (Jq 15)∧Cq w' r_t 1 (.slice Ax xs.length cx)) (by kernel_rfl) ⟨(C3.out.ext Ext.drew1).cell 0,(C3.out.ext Ext.drew1).cell 1,(C3.out.ext Ext.drew1).cell 2,(C3.out.ext Ext.drew1).cell 3,(C3.out.ext Ext.drew1).cell 4,(C3.out.ext Ext.drew1).cell 5,(C3.out.ext Ext.drew1).cell 6,(C3.out.ext Ext.drew1).cell 7,(C3.out.ext Ext.drew1).cell 8,(M3.out.ext Ext.drew1).cell 0,(T3.out.ext Ext.drew1).cell 1⟩ (fun hHeld=>?_)
    have hx4:Ext W0 W0.drew:=Ext.drew1
    replace C3:=hJ (C3.out.ext hx4);replace M3:=hJ (M3.out.ext hx4);replace T3:=hJ (T3.out.ext hx4);replace R3:=hJ (R3.out.ext hx4);replace HZ:=hJ (HZ.out.trans hx4);clear hx4
    generalize W0.drew=u1 at *
    refine E_t 0 138 ?_;refine E_t 1 139 ?_;refine E_t 2 140 ?_;refine E_t 3 141 ?_;refine E_t 4 142 ?_;refine E_t 5 143 ?_;refine E_t 6 144 ?_;refine E_t 7 145 ?_;refine E_r 8 (some 146) fun K hK=>?_
    go_simp;go_at_call 40;refine(open_b m.b _ C3.out.lies.reads hvl HFT.out _ HOB.out).mono ?_
    rintro en w8 ⟨rfl,hx4⟩
    replace C3:=hJ (C3.out.ext hx4);replace M3:=hJ (M3.out.ext hx4);replace T3:=hJ (T3.out.ext hx4);replace R3:=hJ (R3.out.ext hx4);replace HZ:=hJ (HZ.out.trans hx4);clear hx4
    clear hHeld;refine hK.out _ _ ⟨C3.out.cell 0,C3.out.cell 1,C3.out.cell 2,C3.out.cell 3,C3.out.cell 4,C3.out.cell 5,C3.out.cell 6,C3.out.cell 7,C3.out.cell 8,M3.out.cell 0,T3.out.cell 1⟩ (fun hHeld=>?_)
    clear hK K;try simp only[Act.put,aP1,aP2,aP3]
    refine E_t 9 147 ?_;refine E_t 10 148 ?_;refine E_t 11 149 ?_;refine E_t 12 150 ?_;refine E_t 13 151 ?_;refine E_t 14 152 ?_;refine E_t 15 153 ?_;refine E_r 16 (some 154) fun K hK=>?_
    go_simp;go_at_call 41;refine(qiB m.b _ C3.out.lies.reads hvl HFT.out _ HLB.out).mono ?_
    rintro en w9 ⟨rfl,hx4⟩
    replace C3:=hJ (C3.out.ext hx4);replace M3:=hJ (M3.out.ext hx4);replace T3:=hJ (T3.out.ext hx4);replace R3:=hJ (R3.out.ext hx4);replace HZ:=hJ (HZ.out.trans hx4);clear hx4
    clear hHeld;refine hK.out _ _ ⟨C3.out.cell 0,C3.out.cell 1,C3.out.cell 2,C3.out.cell 3,C3.out.cell 4,C3.out.cell 5,C3.out.cell 6,C3.out.cell 7,C3.out.cell 8,M3.out.cell 0,T3.out.cell 1⟩ (fun hHeld=>?_)
    clear hK K;try simp only[Act.put,aP1,aP2,aP3]
    refine E_t 17 155 ?_;refine E_t 18 156 ?_;refine E_t 19 157 ?_;refine E_s 20 158 ?_;refine E_t 21 159 ?_;refine E_t 22 160 ?_;refine E_s 23 161 ?_;refine E_s 24 162 ?_;refine E_s 25 163 ?_;refine E_s 26 164 ?_;refine E_s 27 165 ?_;refine E_s 28 166 ?_;refine E_s 29 167 ?_;refine E_s 30 168 ?_;refine E_t 31 169 ?_;refine E_t 32 137 ?_;refine qaE (by kernel_rfl) (by rfl) ?_
    go_wp2;go_meet
    case rel=>exact⟨rfl,by rw[HC1.out];rfl,C3,M3,HZ⟩
   | false=>
    cases hq:(fr == sq) with
    | false=>
     refine qac 33 (fun w'=>Cq w' p 0 (Jq m.b.self)∧Cq w' p 1 (.slice m.b.Av m.b.vs.length m.b.cv)∧Cq w' p 2 (Jq m.b.base)∧Cq w' p 3 (.slice m.b.Al m.b.log.length m.b.cl)∧Cq w' p 4 (Jq m.b.stable)∧Cq w' p 5 (Jq m.b.sent)∧Cq w' p 6 (.slice m.b.Ap m.b.pend.length m.b.cp)∧Cq w' p 7 (.slice m.b.Am m.b.marks.length m.b.cm)∧Cq w' p 8 (.slice m.b.Af m.b.fls.length m.b.cf)∧w'.cell? (Pw w 0)=some (Jq 15)∧Cq w' r_t 1 (.slice Ax xs.length cx)) (by kernel_rfl) ⟨(C3.out.ext Ext.drew1).cell 0,(C3.out.ext Ext.drew1).cell 1,(C3.out.ext Ext.drew1).cell 2,(C3.out.ext Ext.drew1).cell 3,(C3.out.ext Ext.drew1).cell 4,(C3.out.ext Ext.drew1).cell 5,(C3.out.ext Ext.drew1).cell 6,(C3.out.ext Ext.drew1).cell 7,(C3.out.ext Ext.drew1).cell 8,(M3.out.ext Ext.drew1).cell 0,(T3.out.ext Ext.drew1).cell 1⟩ (fun hHeld=>?_)
     have hx4:Ext W0 W0.drew:=Ext.drew1
     replace C3:=hJ (C3.out.ext hx4);replace M3:=hJ (M3.out.ext hx4);replace T3:=hJ (T3.out.ext hx4);replace R3:=hJ (R3.out.ext hx4);replace HZ:=hJ (HZ.out.trans hx4);clear hx4
     generalize W0.drew=u1 at *
     refine E_t 0 138 ?_;refine E_t 1 139 ?_;refine E_t 2 140 ?_;refine E_t 3 141 ?_;refine E_t 4 142 ?_;refine E_t 5 143 ?_;refine E_t 6 144 ?_;refine E_t 7 145 ?_;refine E_r 8 (some 146) fun K hK=>?_
     go_simp;go_at_call 40;refine(open_b m.b _ C3.out.lies.reads hvl HFT.out _ HOB.out).mono ?_
     rintro en w8 ⟨rfl,hx4⟩
     replace C3:=hJ (C3.out.ext hx4);replace M3:=hJ (M3.out.ext hx4);replace T3:=hJ (T3.out.ext hx4);replace R3:=hJ (R3.out.ext hx4);replace HZ:=hJ (HZ.out.trans hx4);clear hx4
     clear hHeld;refine hK.out _ _ ⟨C3.out.cell 0,C3.out.cell 1,C3.out.cell 2,C3.out.cell 3,C3.out.cell 4,C3.out.cell 5,C3.out.cell 6,C3.out.cell 7,C3.out.cell 8,M3.out.cell 0,T3.out.cell 1⟩ (fun hHeld=>?_)
     clear hK K;try simp only[Act.put,aP1,aP2,aP3]
     refine E_t 9 147 ?_;refine E_t 10 148 ?_;refine E_t 11 149 ?_;refine E_t 12 150 ?_;refine E_t 13 151 ?_;refine E_t 14 152 ?_;refine E_t 15 153 ?_;refine E_r 16 (some 154) fun K hK=>?_
     go_simp;go_at_call 41;refine(qiB m.b _ C3.out.lies.reads hvl HFT.out _ HLB.out).mono ?_
     rintro en w9 ⟨rfl,hx4⟩
     replace C3:=hJ (C3.out.ext hx4);replace M3:=hJ (M3.out.ext hx4);replace T3:=hJ (T3.out.ext hx4);replace R3:=hJ (R3.out.ext hx4);replace HZ:=hJ (HZ.out.trans hx4);clear hx4
     clear hHeld;refine hK.out _ _ ⟨C3.out.cell 0,C3.out.cell 1,C3.out.cell 2,C3.out.cell 3,C3.out.cell 4,C3.out.cell 5,C3.out.cell 6,C3.out.cell 7,C3.out.cell 8,M3.out.cell 0,T3.out.cell 1⟩ (fun hHeld=>?_)
     clear hK K;try simp only[Act.put,aP1,aP2,aP3]
     refine E_t 17 155 ?_;refine E_t 18 156 ?_;refine E_t 19 157 ?_;refine E_t 20 158 ?_;refine E_t 21 159 ?_;refine E_t 22 160 ?_;refine E_s 23 161 ?_;refine E_s 24 162 ?_;refine E_s 25 163 ?_;refine E_s 26 164 ?_;refine E_s 27 165 ?_;refine E_s 28 166 ?_;refine E_s 29 167 ?_;refine E_s 30 168 ?_;refine E_t 31 169 ?_;refine E_t 32 137 ?_;refine qaE (by kernel_rfl) (by rfl) ?_
     go_wp2;go_meet
     case rel=>exact⟨by rw[hq],by rw[HC1.out];rw[hq];rfl,C3,M3,HZ⟩
    | true=>
     refine qac 33 (fun w'=>Cq w' p 0 (Jq m.b.self)∧Cq w' p 1 (.slice m.b.Av m.b.vs.length m.b.cv)∧Cq w' p 2 (Jq m.b.base)∧Cq w' p 3 (.slice m.b.Al m.b.log.length m.b.cl)∧Cq w' p 4 (Jq m.b.stable)∧Cq w' p 5 (Jq m.b.sent)∧Cq w' p 6 (.slice m.b.Ap m.b.pend.length m.b.cp)∧Cq w' p 7 (.slice m.b.Am m.b.marks.length m.b.cm)∧Cq w' p 8 (.slice m.b.Af m.b.fls.length m.b.cf)∧w'.cell? (Pw w 0)=some (Jq 15)∧Cq w' r_t 1 (.slice Ax xs.length cx)) (by kernel_rfl) ⟨(C3.out.ext Ext.drew1).cell 0,(C3.out.ext Ext.drew1).cell 1,(C3.out.ext Ext.drew1).cell 2,(C3.out.ext Ext.drew1).cell 3,(C3.out.ext Ext.drew1).cell 4,(C3.out.ext Ext.drew1).cell 5,(C3.out.ext Ext.drew1).cell 6,(C3.out.ext Ext.drew1).cell 7,(C3.out.ext Ext.drew1).cell 8,(M3.out.ext Ext.drew1).cell 0,(T3.out.ext Ext.drew1).cell 1⟩ (fun hHeld=>?_)
     have hx4:Ext W0 W0.drew:=Ext.drew1
     replace C3:=hJ (C3.out.ext hx4);replace M3:=hJ (M3.out.ext hx4);replace T3:=hJ (T3.out.ext hx4);replace R3:=hJ (R3.out.ext hx4);replace HZ:=hJ (HZ.out.trans hx4);clear hx4
     generalize W0.drew=u1 at *
     refine E_t 0 138 ?_;refine E_t 1 139 ?_;refine E_t 2 140 ?_;refine E_t 3 141 ?_;refine E_t 4 142 ?_;refine E_t 5 143 ?_;refine E_t 6 144 ?_;refine E_t 7 145 ?_;refine E_r 8 (some 146) fun K hK=>?_
     go_simp;go_at_call 40;refine(open_b m.b _ C3.out.lies.reads hvl HFT.out _ HOB.out).mono ?_
     rintro en w8 ⟨rfl,hx4⟩
     replace C3:=hJ (C3.out.ext hx4);replace M3:=hJ (M3.out.ext hx4);replace T3:=hJ (T3.out.ext hx4);replace R3:=hJ (R3.out.ext hx4);replace HZ:=hJ (HZ.out.trans hx4);clear hx4
     clear hHeld;refine hK.out _ _ ⟨C3.out.cell 0,C3.out.cell 1,C3.out.cell 2,C3.out.cell 3,C3.out.cell 4,C3.out.cell 5,C3.out.cell 6,C3.out.cell 7,C3.out.cell 8,M3.out.cell 0,T3.out.cell 1⟩ (fun hHeld=>?_)
     clear hK K;try simp only[Act.put,aP1,aP2,aP3]
     refine E_t 9 147 ?_;refine E_t 10 148 ?_;refine E_t 11 149 ?_;refine E_t 12 150 ?_;refine E_t 13 151 ?_;refine E_t 14 152 ?_;refine E_t 15 153 ?_;refine E_r 16 (some 154) fun K hK=>?_
     go_simp;go_at_call 41;refine(qiB m.b _ C3.out.lies.reads hvl HFT.out _ HLB.out).mono ?_
     rintro en w9 ⟨rfl,hx4⟩
     replace C3:=hJ (C3.out.ext hx4);replace M3:=hJ (M3.out.ext hx4);replace T3:=hJ (T3.out.ext hx4);replace R3:=hJ (R3.out.ext hx4);replace HZ:=hJ (HZ.out.trans hx4);clear hx4
     clear hHeld;refine hK.out _ _ ⟨C3.out.cell 0,C3.out.cell 1,C3.out.cell 2,C3.out.cell 3,C3.out.cell 4,C3.out.cell 5,C3.out.cell 6,C3.out.cell 7,C3.out.cell 8,M3.out.cell 0,T3.out.cell 1⟩ (fun hHeld=>?_)
     clear hK K;try simp only[Act.put,aP1,aP2,aP3]
     refine E_t 17 155 ?_;refine E_t 18 156 ?_;refine E_t 19 157 ?_;refine E_t 20 158 ?_;refine E_t 21 159 ?_;refine E_t 22 160 ?_;refine E_t 23 161 ?_;refine E_t 24 162 ?_;refine E_t 25 163 ?_;refine E_t 26 164 ?_;refine E_t 27 165 ?_;refine E_t 28 166 ?_;refine E_t 29 167 ?_;refine E_r 30 (some 168) fun K hK=>?_
     go_simp;go_at_call 85;refine(qa6 Ax cx xs m.b.self _ R3.out (by omega) hs HHS.out).mono ?_
     rintro en wA ⟨rfl,hx5⟩
     have hx4:=Ext.refl wA
     subst hx5
     replace C3:=hJ (C3.out.ext hx4);replace M3:=hJ (M3.out.ext hx4);replace T3:=hJ (T3.out.ext hx4);replace R3:=hJ (R3.out.ext hx4);replace HZ:=hJ (HZ.out.trans hx4);clear hx4
     clear hHeld;refine hK.out _ _ ⟨C3.out.cell 0,C3.out.cell 1,C3.out.cell 2,C3.out.cell 3,C3.out.cell 4,C3.out.cell 5,C3.out.cell 6,C3.out.cell 7,C3.out.cell 8,M3.out.cell 0,T3.out.cell 1⟩ (fun hHeld=>?_)
     clear hK K;try simp only[Act.put,aP1,aP2,aP3]
     refine E_t 31 169 ?_;refine E_t 32 137 ?_;refine qaE (by kernel_rfl) (by rfl) ?_
     go_wp2;go_meet
     case rel=>exact⟨by rw[hq],by rw[HC1.out];rw[hq];rfl,C3,M3,HZ⟩
 case rest=>
  obtain⟨rfl,rfl,HC0,HM0,HZ0⟩:=hcut
  clear C3 M3 T3 R3 HZ;obtain⟨C3,M3,HZ⟩:Hid (CS wc B col p m)∧Hid (BIs wc w.heap.size #[Jq 15,Jq num,Jq first,Jq mst,.string (qax pay),.slice Ae ents.length ce] 110)∧Hid (Ext w wc):=⟨HC0,HM0,HZ0⟩
  clear HC0 HM0 HZ0;cases c1 with
  | false=>
   rw[if_neg (by simp)] at HR
   go_wp2;go_end0;rw[HR.out]
   exact⟨m,col,rfl,C3.out,rfl,Stp.ext' H.out.Bsz HZ.out⟩
  | true=>
   rw[if_pos rfl] at HR
   obtain⟨b0,b1,b2,b3,b4,b5⟩:=six M3.out
   go_wp2_with fail
   refine(qh8 m B col p 15 num first mst pay ents Ae ce wc C3.out ⟨OK.out.st0,OK.out.st1⟩ (HO.out.ext HZ.out) HCE.out hel HEP.out).mono ?_
   rintro en w6 ⟨m6,col6,rfl,hc6,hm6,hs6⟩
   go_wp2;go_end0;rw[HR.out]
   exact⟨m6,col6,rfl,hc6,hm6,(Stp.ext' H.out.Bsz HZ.out).trans hs6⟩
theorem qmh(m:CM)(B:Nat)(col:Nat→Nat)(p:Nat)(fr kind num first mst:Int)(pay:List UInt8)(ents:List Ent)(Ae:Option Addr)(ce:Nat)(w:World)(h:CS w B col p m)(ok:OkS m.b.st)(hdl:m.dl.length≤100000)(hmn:m.b.marks.length≤50000)(hfn:m.b.fls.length≤49999)(hvx:∀v∈m.b.vs,v.xs.length≤1000)(hvlt:m.b.vs.length≤100000)
  (ho:qaz.Own w B (.slice Ae ents.length ce) ents) (hce:ColV col 2 (.slice Ae ents.length ce)) (hee:ents.length≤ce) (hel:ents.length≤2000) (hep:∀e∈ents,e.p.length≤6000) (hpp:pay.length≤1000000) (hll:m.b.log.length≤2000) (hf12:kind=12→0≤first∧first≤1099511627776) :
  Calls Tryz.prog 73 #[.pointer (some (Pq p 0)),Jq fr,qoK ⟨kind,num,first,mst,pay,ents⟩ Ae ce] w (qhw B col p w (qaP m.cs fr ⟨kind,num,first,mst,pay,ents⟩)):=by
 by_cases h1:kind=11
 ·subst h1;exact qnn m B col p fr num first mst pay ents Ae ce w h ok hvx ho hce hep hll hpp
 by_cases h2:kind=12
 ·subst h2;exact qos m B col p fr num first mst pay ents Ae ce w h ok hvx ho hce hep hdl hee hel (hf12 rfl).1 (hf12 rfl).2
 by_cases h3:kind=13
 ·subst h3;exact qoc m B col p fr num first mst pay ents Ae ce w h ok hvx ho hce hep hdl hmn
 by_cases h4:kind=14
 ·subst h4;exact qor m B col p fr num first mst pay ents Ae ce w h ok hvx ho hce hep hfn hvlt hel
 by_cases h5:kind=15
 ·subst h5;exact qnm m B col p fr num first mst pay ents Ae ce w h ok hvx ho hce hep hel
 exact qpg m B col p fr kind num first mst pay ents Ae ce w h ok hvx ho hce hep (by simpa using h1) (by simpa using h2) (by simpa using h3) (by simpa using h4) (by simpa using h5)
theorem qei {P : Prop} (h : P := by
 obtain⟨y0,y1,y2,y3,y4,y5,y6,y7,y8⟩:=qbC BR1.out
 obtain⟨z0,z1,z2,z3,z4,z5,z6,z7,z8⟩:=BR1.out.free9
 go_wp2;have BF:=qaJ (a0:=Jq 0) (a1:=Zq) (a2:=Jq 0) (a3:=Zq) (a4:=Jq 0) (a5:=Jq 0) (a6:=Zq) (a7:=Zq) (a8:=Zq) BR1.out
 obtain⟨e0,e1,e2,e3,e4,e5,e6,e7,e8⟩:=qbC BF
 refine bodyPost_ret (v:=.tuple #[.agg Yq,Zq,Zq,Jq 1]) (by simp[results,Tryz.results16,go_sem,e0,e1,e2,e3,e4,e5,e6,e7,e8]) rfl ?_
 rw[HRF.out]
 exact qiK 1 (qak.ext (E0.out.trans X1.out) (show w.heap.size≤w.heap.size+1 by omega))) : P := h
def re(col:Nat→Nat)(v:Value)(c:Nat):Nat→Nat:=fun k=>if v.ownBlock=some k then c else col k
theorem qsY{col:Nat→Nat}{v:Value}{c q:Nat}(h:v.ownBlock=some q):re col v c q=c:=by unfold re;rw[if_pos h]
theorem qqK{col:Nat→Nat}{v:Value}{c k:Nat}(h:∀q,v.ownBlock=some q→k≠q):re col v c k=col k:=by unfold re;rw[if_neg (fun e=>h k e rfl)]
theorem qkj{col:Nat→Nat}{v:Value}{c k:Nat}(h:∀q,v.ownBlock=some q→col q=8)(hk:col k≠8):re col v c k=col k:=qqK (fun q hq e=>hk (by rw[e];exact h q hq))
section
variable {w:World} {B B' p:Nat} {col:Nat→Nat} {m:CM} {v:Value} {c k:Nat} {A:Option Addr} {xs:List Value}
theorem ColR.re(h:ColR col k A xs)(hv:∀q,v.ownBlock=some q→col q=8)(hk:k≠8):ColR (re col v c) k A xs:=fun p hx hp=>by rw[qkj hv (by rw[h p hx hp];exact hk)];exact h p hx hp
theorem ColV.re{u:Value}(h:ColV col k u)(hv:∀q,v.ownBlock=some q→col q=8)(hk:k≠8):ColV (re col v c) k u:=fun q hq=>by rw[qkj hv (by rw[h q hq];exact hk)];exact h q hq
theorem CS.base(h:CS w B col p m)(hb:B'≤B):CS w B' col p m:=⟨h.box,h.pc,Nat.le_trans hb h.bp,h.lies.base hb,h.pk.base hb,h.kc,h.ki,h.dl.base hb,h.dc,h.fits,h.cp⟩
theorem CS.re(h:CS w B col p m)(hv:∀q,v.ownBlock=some q→col q=8):CS w B (re col v c) p m:=by
 have l:=h.lies
 refine⟨h.box,by rw[qkj hv (by rw[h.pc];decide)];exact h.pc,h.bp,⟨l.vs,l.vc.re hv (by decide),fun x hx=>(l.vi x hx).re hv (by decide),l.log,l.lc.re hv (by decide),l.pend,l.pc.re hv (by decide),l.marks,l.mc.re hv (by decide),l.fls,l.fc.re hv (by decide),fun f hf=>⟨(l.fi f hf).1,(l.fi f hf).2.1,(l.fi f hf).2.2.re hv (by decide)⟩⟩,
  h.pk,h.kc.re hv (by decide),fun x hx=>⟨(h.ki x hx).1,(h.ki x hx).2.1,(h.ki x hx).2.2.re hv (by decide)⟩,h.dl,h.dc.re hv (by decide),h.fits,h.cp⟩
end
theorem qfE{s:St}{fr:Int}{frame:List UInt8}(hv:qbp s=true)(hi:qb2 fr=true)(hn:fr≠s.self):qal s fr frame=match qa3 frame with|none=>(⟨qcI,[],[]⟩,3)|some m=>(if m.num=(qaf s.views).1 then qaP ⟨s,[],[]⟩ fr m else ⟨s,[],[]⟩,0):=by
 unfold qal
 rw[if_neg (by simp[hv,hi,hn])]
 cases qa3 frame<;>rfl
theorem qiK{w w':World}(er:Int)(hx:Ext w w'):qkV w ⟨qcI,[],[]⟩ er (.returned (.tuple #[.agg Yq,Zq,Zq,Jq er])) w':=
 ⟨⟨qdc,none,0,[],none,0,[]⟩,rfl,rfl,qgV _,qh3,⟨Row.nil _ _,fun a ha=>by simp at ha⟩,Row.nil _ _,hx,⟨fun _ h=>by simp[qdc,Elem.cells] at h,fun _ h=>by simp[qdc] at h,fun _ h=>by simp[qdc,Elem.cells] at h,fun _ h=>by simp[qdc,Elem.cells] at h,fun _ h=>by simp[qdc,Elem.cells] at h,fun _ h=>by simp[qdc,Elem.cells] at h,fun _ h=>by simp[qdc] at h⟩,fun _ h=>by simp[Elem.cells] at h,fun _ h=>by simp[Elem.cells] at h,fun _ h=>by simp at h⟩
set_option maxHeartbeats 2000000 in
theorem qeY(b:BM)(fr:Int)(A:Option Addr)(c:Nat)(frame:List UInt8)(w:World)(h:b.Reads w)(hf:b.Fits)(hrow:Row w A (qad frame))(hc:frame.length≤c)(hl:frame.length≤1000000) :
  Calls Tryz.prog 16 #[.agg b.cells,Jq fr,.slice A frame.length c] w (qkV w (qal b.st fr frame).1 (qal b.st fr frame).2):=by
 have E0:Hid (Ext w ((w.alloc (.cells b.cells 28)).alloc (.cells Yq 28))):=hJ ((Ext.new _ _).trans (Ext.new _ _))
 have R0:=hJ (h.ext E0.out);have HFT:=hJ hf;have HROW:=hJ hrow
 clear h hf hrow;unfold BM.cells
 go_enter Tryz.func16,Tryz.ntmps16
 go_wp2_with fail
 refine(qbR b _ R0.out HFT.out).mono ?_
 rintro en w1 ⟨rfl,hx1⟩
 have X1:=hJ hx1
 have BR1:Hid (BIs w1 (w.heap.size+1) Yq 28):=hJ (by have:=BIs.ext (BIs.new (w.alloc (.cells b.cells 28)) Yq 28) hx1;simpa using this)
 have BP1:Hid (BIs w1 w.heap.size b.cells 28):=hJ (((BIs.new w b.cells 28).ext (Ext.new _ _)).ext hx1)
 clear hx1;obtain⟨q0,q1,q2,q3,q4,q5,q6,q7,q8⟩:=qbC BP1.out
 have hp12:Hid (w.heap.size+1<w1.heap.size):=hJ BR1.out.lt
 cases hv:qbp b.st with
 | false=>
  have HRF:Hid (qal b.st fr frame=(⟨qcI,[],[]⟩,1)):=hJ (by unfold qal;rw[if_pos (.inl hv)])
  exact qei
 | true=>
  have HV:=hJ hv
  clear hv;go_wp2_with fail
  refine(qcm fr w1).mono ?_
  rintro en w1' ⟨rfl,rfl⟩
  cases hid:qb2 fr with
  | false=>
   have HRF:Hid (qal b.st fr frame=(⟨qcI,[],[]⟩,1)):=hJ (by unfold qal;rw[if_pos (.inr (.inl hid))])
   exact qei
  | true=>
   have HID:=hJ hid
   clear hid;cases hne:(fr == b.self) with
   | true=>
    have HRF:Hid (qal b.st fr frame=(⟨qcI,[],[]⟩,1)):=hJ (by unfold qal;rw[if_pos (.inr (.inr (show fr=b.self by simpa using hne)))])
    exact qei
   | false=>
    have HNE:Hid (fr≠b.self):=hJ (by simpa using hne)
    have HRF0:Hid (qal b.st fr frame=match qa3 frame with|none=>(⟨qcI,[],[]⟩,3)|some m=>(if m.num=(qaf b.st.views).1 then qaP ⟨b.st,[],[]⟩ fr m else ⟨b.st,[],[]⟩,0)):=hJ (qfE HV.out HID.out HNE.out)
    have OK:=hJ (qgs HV.out)
    have VV:=hJ (qb1.1 HV.out)
    go_wp2_with fail
    refine(qoV A c frame w1 (HROW.out.ext (E0.out.trans X1.out)) hc hl).mono ?_
    rintro en w2 (⟨a0,a1,a2,a3,a4,a5,a6,a7,rfl,hrn,hx2⟩|⟨mm,Ae,ce,rfl,hrn,he1,he2,hob,hx2⟩)
    ·have HRF:Hid (qal b.st fr frame=(⟨qcI,[],[]⟩,3)):=hJ (by rw[HRF0.out,hrn])
     have BR2:=hJ ((BR1.out.ext hx2).ext (Ext.new w2 (.cells #[Jq a0,Jq a1,Jq a2,Jq a3,.string a4,.slice a5 a6 a7] 110)))
     have X2:=hJ (((E0.out.trans X1.out).trans hx2).trans (Ext.new w2 (.cells #[Jq a0,Jq a1,Jq a2,Jq a3,.string a4,.slice a5 a6 a7] 110)))
     clear hx2 hrn q0 q1 q2 q3 q4 q5 q6 q7 q8;obtain⟨y0,y1,y2,y3,y4,y5,y6,y7,y8⟩:=qbC BR2.out
     obtain⟨z0,z1,z2,z3,z4,z5,z6,z7,z8⟩:=BR2.out.free9
     go_wp2;have BF:=qaJ (a0:=Jq 0) (a1:=Zq) (a2:=Jq 0) (a3:=Zq) (a4:=Jq 0) (a5:=Jq 0) (a6:=Zq) (a7:=Zq) (a8:=Zq) BR2.out
     obtain⟨e0,e1,e2,e3,e4,e5,e6,e7,e8⟩:=qbC BF
     refine bodyPost_ret (v:=.tuple #[.agg Yq,Zq,Zq,Jq 3]) (by simp[results,Tryz.results16,go_sem,e0,e1,e2,e3,e4,e5,e6,e7,e8]) rfl ?_
     rw[HRF.out]
     exact qiK 3 (qak.ext (X2.out) (show w.heap.size≤w.heap.size+1 by omega))
    obtain⟨hl1,hl2,hl3,hl4⟩:=qpG hrn
    obtain⟨kind,num,first,mst,pay,ents⟩:=mm
    simp only at he1 hob hl1 hl2 hl3 hl4
    have HRG:Hid (qal b.st fr frame=(if num=(qaf b.st.views).1 then qaP ⟨b.st,[],[]⟩ fr ⟨kind,num,first,mst,pay,ents⟩ else ⟨b.st,[],[]⟩,0)):=hJ (by rw[HRF0.out,hrn])
    have X2:=hJ hx2
    have HOE:=hJ hob.1
    have HL2:=hJ hl2
    clear hrn hl2;have E2:Hid (Ext w2 (w2.alloc (.cells #[Jq kind,Jq num,Jq first,Jq mst,.string (qax pay),.slice Ae ents.length ce] 110))):=hJ (Ext.new _ _)
    have M2:Hid (BIs (w2.alloc (.cells #[Jq kind,Jq num,Jq first,Jq mst,.string (qax pay),.slice Ae ents.length ce] 110)) w2.heap.size #[Jq kind,Jq num,Jq first,Jq mst,.string (qax pay),.slice Ae ents.length ce] 110):=hJ (BIs.new _ _ _)
    clear hob hx2 q0 q1 q2 q3 q4 q5 q6 q7 q8;obtain⟨q0,q1,q2,q3,q4,q5,q6,q7,q8⟩:=qbC (BP1.out.ext X2.out)
    have hp2:w.heap.size<w2.heap.size:=(BP1.out.ext X2.out).lt
    have hlt1:Hid (w1.heap.size≤w2.heap.size):=hJ X2.out.size
    go_wp2_with fail
    refine(qfo b _ (R0.out.ext ((X1.out.trans X2.out).trans E2.out)) HFT.out).mono ?_
    rintro en w3 ⟨b',col,rfl,hst',hft',hli,hc8,hpo,hpc,hx3⟩
    obtain⟨_,_,hvp,hcpb,_,_⟩:=hpo.slice
    have hcp:b'.pend.length≤b'.cp:=by simp only[Value.slice.injEq] at hvp;omega
    have X3:=hJ (E2.out.trans hx3);have HC8:=hJ hc8;have HST:=hJ hst'
    have M3:=hJ (M2.out.ext hx3)
    have hs3:Hid (w2.heap.size+1≤w3.heap.size):=hJ (by have:=hx3.size;simpa using this)
    have HAE:Hid (∀k,(Value.slice Ae ents.length ce).ownBlock=some k→w1.heap.size≤k∧k<w2.heap.size):=hJ HOE.out.lt
    have HA8:Hid (∀k,(Value.slice Ae ents.length ce).ownBlock=some k→(qai (qai col w3.heap.size 1) (w3.heap.size+1) 8) k=8):=hJ (fun k hk=>by have h1:=(HAE.out k hk).2;have h3:=hs3.out;rw[qah (by omega),qah (by omega)];exact HC8.out _ (by simp;omega))
    have C4:Hid (CS (w3.alloc (.cells (⟨b',none,0,[],none,0,[]⟩:CM).cells 86)) w.heap.size (re (qai (qai col w3.heap.size 1) (w3.heap.size+1) 8) (.slice Ae ents.length ce) 2) w3.heap.size ⟨b',none,0,[],none,0,[]⟩):=hJ (((qsc (by simpa using hli) hft' hcp hs3.out).base (by omega)).re HA8.out)
    have HFT':=hJ hft'
    have BR4:Hid (BIs (w3.alloc (.cells (⟨b',none,0,[],none,0,[]⟩:CM).cells 86)) (w.heap.size+1) Yq 28):=hJ (((BR1.out.ext X2.out).ext X3.out).ext (Ext.new _ _))
    have M4:Hid (BIs (w3.alloc (.cells (⟨b',none,0,[],none,0,[]⟩:CM).cells 86)) w2.heap.size #[Jq kind,Jq num,Jq first,Jq mst,.string (qax pay),.slice Ae ents.length ce] 110):=hJ (M3.out.ext (Ext.new _ _))
    have X4:Hid (Ext w (w3.alloc (.cells (⟨b',none,0,[],none,0,[]⟩:CM).cells 86))):=hJ ((((E0.out.trans X1.out).trans X2.out).trans X3.out).trans (Ext.new _ _))
    have HOE4:Hid (qaz.Own (w3.alloc (.cells (⟨b',none,0,[],none,0,[]⟩:CM).cells 86)) w.heap.size (.slice Ae ents.length ce) ents):=hJ ((HOE.out.base (by have:=hp12.out;omega)).ext (X3.out.trans (Ext.new _ _)))
    have hvl:0<b'.vs.length:=by
     have h1:=OK.out.vs
     rw[←HST.out] at h1
     simpa[BM.st,qaI] using h1
    have hfv:=hft'.vs
    obtain⟨⟨tn,xs⟩,hlv⟩:∃v,qaf (vws b'.vs)=v:=⟨_,rfl⟩
    have HLV:=hJ hlv
    have HTN:Hid ((qaf b.st.views).1=tn):=hJ (by rw[←HST.out];show (qaf (vws b'.vs)).1=tn;rw[hlv])
    clear hlv;have VB:Hid (VS b'.st):=hJ (by rw[HST.out];exact VV.out)
    have OKB:Hid (OkS b'.st):=hJ (by rw[HST.out];exact OK.out)
    have hmk:b'.marks.length≤50000:=by have h9:b'.marks.length≤1000:=VB.out.mk_len;omega
    have hfn:b'.fls.length≤49999:=by have h9:=VB.out.fl_len;rw[qiG] at h9;omega
    have hlg:b'.log.length≤2000:=OKB.out.log
    have HVX:Hid (∀v∈b'.vs,v.xs.length≤1000):=hJ (fun v hv=>by have:=(VB.out.vx v.v (List.mem_map_of_mem hv)).1;simp only[VwM.v] at this;omega)
    clear hst' hft' hli hc8 hpo hpc hx3 hvp hcpb hcp q0 q1 q2 q3 q4 q5 q6 q7 q8;unfold BM.cells
    go_upto_region 7 with fail
    unfold CM.cells at C4 BR4 M4 X4 HOE4
    simp only[List.length_nil] at C4 BR4 M4 X4 HOE4
    generalize w3.alloc (.cells #[Jq b'.self,.slice b'.Av b'.vs.length b'.cv,Jq b'.base,.slice b'.Al b'.log.length b'.cl,Jq b'.stable,Jq b'.sent,.slice b'.Ap b'.pend.length b'.cp,.slice b'.Am b'.marks.length b'.cm,.slice b'.Af b'.fls.length b'.cf,Zq,Zq] 86)=w4 at *
    have b1:w4.cell? (Pw w2 1)=some (Jq num):=M4.out.cell 1
    have q1:w4.cell? (Pw w3 1)=some (.slice b'.Av b'.vs.length b'.cv):=C4.out.cell 1
    have hm4:w2.heap.size<w4.heap.size:=M4.out.lt
    have hc4:w3.heap.size<w4.heap.size:=C4.out.lt
    have hfd:=qeF
    refine qac 10 (fun w'=>w'.cell? (Pw w2 1)=some (Jq num)∧w'.cell? (Pw w3 1)=some (.slice b'.Av b'.vs.length b'.cv)) (by kernel_rfl) ⟨b1,q1⟩ (fun hHeld=>?_)
    refine E_t 0 40 ?_;refine E_t 1 41 ?_;refine E_t 2 42 ?_;refine E_t 3 43 ?_;refine E_t 4 44 ?_;refine E_t 5 45 ?_;refine E_t 6 46 ?_;refine E_r 7 (some 47) fun K hK=>?_
    go_simp;go_at_call 49;refine(qdj b'.Av b'.cv b'.vs _ (by exact C4.out.lies.vs.ext Ext.drew1) hvl (by omega) tn xs HLV.out).mono ?_
    rintro en w5 ⟨A5,c5,rfl,h51,h52,HR5,hx5⟩
    have X5:Hid (Ext w4 w5):=hJ (Ext.drew1.trans hx5)
    clear hx5;clear hHeld;refine hK.out _ _ ⟨by rw[X5.out.cell (by exact hm4)];exact b1,by rw[X5.out.cell (by exact hc4)];exact q1⟩ (fun hHeld=>?_)
    clear hK K;try simp only[Act.put,aP1,aP2,aP3]
    refine E_t 8 48 ?_;refine E_t 9 49 ?_;refine qaE (by kernel_rfl) (by rfl) ?_
    clear b1 q1 hHeld;have C5:=hJ (C4.out.ext X5.out);have BR5:=hJ (BR4.out.ext X5.out);have M5:=hJ (M4.out.ext X5.out)
    have X05:=hJ (X4.out.trans X5.out)
    have HOE5:=hJ (HOE4.out.ext X5.out)
    obtain⟨bq,hbq⟩:∃x,(num == tn)=x:=⟨_,rfl⟩
    have HBQ:=hJ hbq
    try simp only[hbq]
    clear hbq;go_upto_if 49 with fail
    go_cut [] (fun wx=>∃(m6:CM) (col6:Nat→Nat),Hid (CS wx w.heap.size col6 w3.heap.size m6)∧Hid (m6.cs=(qal b.st fr frame).1)∧Hid (Stp w.heap.size [1,2,3,4,5,7] (re (qai (qai col w3.heap.size 1) (w3.heap.size+1) 8) (.slice Ae ents.length ce) 2) w5 col6 wx))
    case first=>
     cases bq with
     | false=>
      go_wp2;go_meet
      case rel=>exact⟨_,_,C5,hJ (by rw[HRG.out];simp only;rw[if_neg (by rw[HTN.out];simpa using HBQ.out)];simp only[CM.cs,HST.out,List.map_nil]),hJ (Stp.refl _ _ _ _)⟩
     | true=>
      obtain⟨b0,b1,b2,b3,b4,b5⟩:=six M5.out
      go_wp2_with fail
      refine(qmh ⟨b',none,0,[],none,0,[]⟩ w.heap.size (re (qai (qai col w3.heap.size 1) (w3.heap.size+1) 8) (.slice Ae ents.length ce) 2) w3.heap.size fr kind num first mst pay ents Ae ce w5 C5.out OKB.out (by simp) hmk hfn HVX.out (by omega) HOE5.out (fun q hq=>qsY hq) he1 hl1 HL2.out (by omega) hlg hl4).mono ?_
      rintro en w6 ⟨m6,col6,rfl,hc6,hm6,hs6⟩
      go_wp2;go_meet
      case rel=>exact⟨m6,col6,hJ hc6,hJ (by rw[HRG.out];simp only;rw[if_pos (by rw[HTN.out];simpa using HBQ.out),hm6];simp only[CM.cs,HST.out,List.map_nil]),hJ hs6⟩
    case rest=>
     obtain⟨m6,col6,hc6',hm6',S6⟩:=hcut
     have hc6:=hc6'.out
     have hME:Hid (m6.cs=(qal b.st fr frame).1):=hm6'
     clear hc6' hm6';obtain⟨w6,rfl⟩:∃x,x=wc:=⟨_,rfl⟩
     have hRe:Hid (∀k,k≤w.heap.size+1→(re (qai (qai col w3.heap.size 1) (w3.heap.size+1) 8) (.slice Ae ents.length ce) 2) k=8):=hJ (fun k hk=>by have h1:=hp12.out;have h2:=hlt1.out;have h3:=hs3.out;rw[qqK (fun q hq=>by have:=(HAE.out q hq).1;omega),qah (by omega),qah (by omega)];exact HC8.out _ (by simp;omega))
     have hcv8:Hid ((re (qai (qai col w3.heap.size 1) (w3.heap.size+1) 8) (.slice Ae ents.length ce) 2) (w.heap.size+1)=8):=hJ (hRe.out _ (Nat.le_refl _))
     have BRE:=hJ (S6.out.bis BR5.out (by rw[hcv8.out];simp))
     have XE:Hid (Ext w w6):=hJ (Below.trans X05.out (S6.out.below.mono (by omega)))
     have CE:=hJ hc6
     have HCO:Hid (∀k,k<w.heap.size→col6 k=8):=hJ (fun k hk=>(S6.out.hue _ (by have:=X05.out.size;omega)).trans (hRe.out _ (by omega)))
     have hc8E:Hid (col6 (w.heap.size+1)=8):=hJ ((S6.out.hue _ BR5.out.lt).trans hcv8.out)
     have hne1:w3.heap.size≠w.heap.size+1:=by have h1:=hp12.out;have h2:=hlt1.out;have h3:=hs3.out;omega
     have q0:=CE.out.cell 0;have q1:=CE.out.cell 1;have q2:=CE.out.cell 2;have q3:=CE.out.cell 3;have q4:=CE.out.cell 4;have q5:=CE.out.cell 5;have q6:=CE.out.cell 6;have q7:=CE.out.cell 7;have q8:=CE.out.cell 8;have q9:=CE.out.cell 9;have q10:=CE.out.cell 10
     have HR2:Hid ((qal b.st fr frame).2=0):=hJ (by rw[HRG.out])
     clear hc6;obtain⟨⟨self,base,stable,sent,Av,cv,vs,Al,cl,log,Ap,cp,pend,Am,cm,marks,Af,cf,fls⟩,Ak,ck,pk,Ad,cd,dl⟩:=m6
     go_wp2;obtain⟨wE,rfl⟩:∃x,x=w6:=⟨_,rfl⟩
     obtain⟨colE,rfl⟩:∃x,x=col6:=⟨_,rfl⟩
     replace q0:wE.cell? (Pw w3 0)=some (Jq self):=q0
     replace q1:wE.cell? (Pw w3 1)=some (.slice Av vs.length cv):=q1
     replace q2:wE.cell? (Pw w3 2)=some (Jq base):=q2
     replace q3:wE.cell? (Pw w3 3)=some (.slice Al log.length cl):=q3
     replace q4:wE.cell? (Pw w3 4)=some (Jq stable):=q4
     replace q5:wE.cell? (Pw w3 5)=some (Jq sent):=q5
     replace q6:wE.cell? (Pw w3 6)=some (.slice Ap pend.length cp):=q6
     replace q7:wE.cell? (Pw w3 7)=some (.slice Am marks.length cm):=q7
     replace q8:wE.cell? (Pw w3 8)=some (.slice Af fls.length cf):=q8
     replace q9:wE.cell? (Pw w3 9)=some (.slice Ak pk.length ck):=q9
     replace q10:wE.cell? (Pw w3 10)=some (.slice Ad dl.length cd):=q10
     obtain⟨y0,y1,y2,y3,y4,y5,y6,y7,y8⟩:=qbC BRE.out
     obtain⟨z0,z1,z2,z3,z4,z5,z6,z7,z8⟩:=BRE.out.free9
     refine qac 16 (fun w'=>w'.cell? (Pw w3 0)=some (Jq self)∧w'.cell? (Pw w3 1)=some (.slice Av vs.length cv)∧w'.cell? (Pw w3 2)=some (Jq base)∧w'.cell? (Pw w3 3)=some (.slice Al log.length cl)∧w'.cell? (Pw w3 4)=some (Jq stable)∧w'.cell? (Pw w3 5)=some (Jq sent)∧w'.cell? (Pw w3 6)=some (.slice Ap pend.length cp)∧w'.cell? (Pw w3 7)=some (.slice Am marks.length cm)∧w'.cell? (Pw w3 8)=some (.slice Af fls.length cf)∧w'.cell? (Pw w3 9)=some (.slice Ak pk.length ck)∧w'.cell? (Pw w3 10)=some (.slice Ad dl.length cd)) (by kernel_rfl) ⟨by simpa using q0,by simpa using q1,by simpa using q2,by simpa using q3,by simpa using q4,by simpa using q5,by simpa using q6,by simpa using q7,by simpa using q8,by simpa using q9,by simpa using q10⟩ (fun hHeld=>?_)
     refine E_t 0 54 ?_;refine E_t 1 55 ?_;refine E_t 2 56 ?_;refine E_t 3 57 ?_;refine E_t 4 58 ?_;refine E_t 5 59 ?_;refine E_t 6 60 ?_;refine E_t 7 61 ?_;refine E_t 8 62 ?_;refine E_t 9 63 ?_;refine E_t 10 64 ?_;refine E_t 11 65 ?_;refine E_r 12 none fun K hK=>?_
     go_simp;clear hHeld;refine hK.out _ _ ⟨(qaV hne1).trans q0,(qaV hne1).trans q1,(qaV hne1).trans q2,(qaV hne1).trans q3,(qaV hne1).trans q4,(qaV hne1).trans q5,(qaV hne1).trans q6,(qaV hne1).trans q7,(qaV hne1).trans q8,(qaV hne1).trans q9,(qaV hne1).trans q10⟩ (fun hHeld=>?_)
     clear hK K;try simp only[Act.put,aP1,aP2,aP3]
     refine E_t 13 7 ?_;refine E_t 14 8 ?_;refine E_t 15 9 ?_;refine qaE (by kernel_rfl) (by rfl) ?_
     (try go_wp2)
     have BF:Hid (BIs (((((((((wE.setCell (Pv w 0) (Jq self)).setCell (Pv w 1) (.slice Av vs.length cv)).setCell (Pv w 2) (Jq base)).setCell (Pv w 3) (.slice Al log.length cl)).setCell (Pv w 4) (Jq stable)).setCell (Pv w 5) (Jq sent)).setCell (Pv w 6) (.slice Ap pend.length cp)).setCell (Pv w 7) (.slice Am marks.length cm)).setCell (Pv w 8) (.slice Af fls.length cf)).drew (w.heap.size+1) #[Jq self,.slice Av vs.length cv,Jq base,.slice Al log.length cl,Jq stable,Jq sent,.slice Ap pend.length cp,.slice Am marks.length cm,.slice Af fls.length cf] 28):=hJ ((qaJ BRE.out).ext Ext.drew1)
     have XFF:Hid (Ext w (((((((((wE.setCell (Pv w 0) (Jq self)).setCell (Pv w 1) (.slice Av vs.length cv)).setCell (Pv w 2) (Jq base)).setCell (Pv w 3) (.slice Al log.length cl)).setCell (Pv w 4) (Jq stable)).setCell (Pv w 5) (Jq sent)).setCell (Pv w 6) (.slice Ap pend.length cp)).setCell (Pv w 7) (.slice Am marks.length cm)).setCell (Pv w 8) (.slice Af fls.length cf)).drew):=hJ ((qak.ext XE.out (by omega)).trans Ext.drew1)
     have SF:Hid (Stp w.heap.size [8] colE wE colE (((((((((wE.setCell (Pv w 0) (Jq self)).setCell (Pv w 1) (.slice Av vs.length cv)).setCell (Pv w 2) (Jq base)).setCell (Pv w 3) (.slice Al log.length cl)).setCell (Pv w 4) (Jq stable)).setCell (Pv w 5) (Jq sent)).setCell (Pv w 6) (.slice Ap pend.length cp)).setCell (Pv w 7) (.slice Am marks.length cm)).setCell (Pv w 8) (.slice Af fls.length cf)).drew):=hJ ((Stp.wrote qak (by omega) (by have:=XE.out.size;omega) (by rw[hc8E.out];simp)).trans (Stp.ext' (by rw[show ((((((((((wE.setCell (Pv w 0) (Jq self)).setCell (Pv w 1) (.slice Av vs.length cv)).setCell (Pv w 2) (Jq base)).setCell (Pv w 3) (.slice Al log.length cl)).setCell (Pv w 4) (Jq stable)).setCell (Pv w 5) (Jq sent)).setCell (Pv w 6) (.slice Ap pend.length cp)).setCell (Pv w 7) (.slice Am marks.length cm)).setCell (Pv w 8) (.slice Af fls.length cf))).heap.size=wE.heap.size by simp[World.setCell]];have:=XE.out.size;omega) Ext.drew1))
     generalize (((((((((wE.setCell (Pv w 0) (Jq self)).setCell (Pv w 1) (.slice Av vs.length cv)).setCell (Pv w 2) (Jq base)).setCell (Pv w 3) (.slice Al log.length cl)).setCell (Pv w 4) (Jq stable)).setCell (Pv w 5) (Jq sent)).setCell (Pv w 6) (.slice Ap pend.length cp)).setCell (Pv w 7) (.slice Am marks.length cm)).setCell (Pv w 8) (.slice Af fls.length cf)).drew=W at *
     obtain⟨e0,e1,e2,e3,e4,e5,e6,e7,e8⟩:=qbC BF.out
     refine bodyPost_ret (v:=.tuple #[.agg #[Jq self,.slice Av vs.length cv,Jq base,.slice Al log.length cl,Jq stable,Jq sent,.slice Ap pend.length cp,.slice Am marks.length cm,.slice Af fls.length cf],.slice Ak pk.length ck,.slice Ad dl.length cd,Jq 0]) (by simp[results,Tryz.results16,go_sem,e0,e1,e2,e3,e4,e5,e6,e7,e8]) rfl ?_
     rw[HR2.out]
     exact qoP CE.out SF.out hME.out XFF.out (fun k hk=>HCO.out k hk)
end Go.Proofs.YtponbabbabnaeaaGreat
