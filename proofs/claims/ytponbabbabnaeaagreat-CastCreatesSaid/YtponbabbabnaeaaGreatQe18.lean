/- Part 18 of the proof: contracts of functions that the statement reaches. Conditions: as each theorem says. -/
import Derived.Test.YtponbabbabnaeaaGreatQe01
import Derived.Test.YtponbabbabnaeaaGreatQe16
import Derived.Test.YtponbabbabnaeaaGreatQe11
set_option maxRecDepth 100000
namespace Go.Proofs.YtponbabbabnaeaaGreat
open Go.RowKit
theorem qeR {P : Prop} (h : P := by
 go_wp2;go_end0;rw[HR.out,if_neg (by simp)]
 exact⟨_,col,rfl,C0.out,rfl,Stp.ext' H.out.Bsz E0.out⟩) : P := h
theorem qgR(l p:List Ent):qek l p=qht l p:=by
 unfold qek qht qes
 rfl
theorem qcO(A A':Option Addr)(c c' k:Nat)(l p:List Ent)(w:World)(h:Row w A (qaz.cells l))(h':Row w A' (qaz.cells p))(hn:l.length≤1000000000)(hk:k=p.length)(hc:l.length≤c) :
  Calls Tryz.prog 130 #[.slice A l.length c,.slice A' k c'] w fun e w'=>e=.returned (.bool (qek l p))∧Ext w w':=by subst hk;exact qlI A A' c c' l p w h h' hn hc
set_option maxHeartbeats 1000000 in
theorem qh8(m:CM)(B:Nat)(col:Nat→Nat)(p:Nat)(kind num first mst:Int)(pay:List UInt8)(ents:List Ent)(Ae:Option Addr)(ce:Nat)(w:World)(h:CS w B col p m)(hst:0≤m.b.stable∧m.b.stable≤m.b.log.length)
  (ho:qaz.Own w B (.slice Ae ents.length ce) ents) (hce:ColV col 2 (.slice Ae ents.length ce)) (hel:ents.length≤2000) (hep:∀e∈ents,e.p.length≤6000) :
  Calls Tryz.prog 146 #[.pointer (some (Pq p 0)),qoK ⟨kind,num,first,mst,pay,ents⟩ Ae ce] w (qhw B col p w (qbt m.cs ⟨kind,num,first,mst,pay,ents⟩)):=by
 obtain⟨⟨self,base,stable,sent,Av,cv,vs,Al,cl,log,Ap,cp,pend,Am,cm,marks,Af,cf,fls⟩,Ak,ck,pk,Ad,cd,dl⟩:=m
 have hpl:=h.lt
 have H:=hJ h
 have hfl:=h.fits.log
 have hcl:=h.fits.cl
 simp only at hst hfl hcl
 obtain⟨sn,rfl⟩:∃k:Nat,stable=(k:Int):=⟨stable.toNat,by omega⟩
 have HO:=hJ ho;have HCE:=hJ hce;have HEP:=hJ hep
 obtain⟨Ae',ce',hv,hk1,hk2,_⟩:=ho.slice
 simp only[Value.slice.injEq,true_and] at hv
 obtain⟨hv1,hv2⟩:=hv
 rw[←hv2] at hk1 hk2
 clear hv1 hv2;have E0:Hid (Ext w (w.alloc (.cells #[Jq kind,Jq num,Jq first,Jq mst,.string (qax pay),.slice Ae ents.length ce] 110))):=hJ (Ext.new _ _)
 have C0:Hid (CS (w.alloc (.cells #[Jq kind,Jq num,Jq first,Jq mst,.string (qax pay),.slice Ae ents.length ce] 110)) B col p ⟨⟨self,base,(sn:Int),sent,Av,cv,vs,Al,cl,log,Ap,cp,pend,Am,cm,marks,Af,cf,fls⟩,Ak,ck,pk,Ad,cd,dl⟩):=hJ (h.ext E0.out)
 have M0:Hid (BIs (w.alloc (.cells #[Jq kind,Jq num,Jq first,Jq mst,.string (qax pay),.slice Ae ents.length ce] 110)) w.heap.size #[Jq kind,Jq num,Jq first,Jq mst,.string (qax pay),.slice Ae ents.length ce] 110):=hJ (BIs.new _ _ _)
 have O0:Hid (Row (w.alloc (.cells #[Jq kind,Jq num,Jq first,Jq mst,.string (qax pay),.slice Ae ents.length ce] 110)) Ae (qaz.cells ents)):=hJ (ho.row.ext E0.out)
 clear h ho hce hep;obtain⟨v1,hv1⟩:∃x,qaX ents num=x:=⟨_,rfl⟩
 obtain⟨v2,hv2⟩:∃x,qht ents (log.take sn)=x:=⟨_,rfl⟩
 obtain⟨on,hon⟩:∃x,qay ents self=x:=⟨_,rfl⟩
 have HV1:=hJ hv1;have HV2:Hid (qek ents (log.take sn)=v2):=hJ (by rw[qgR];exact hv2);have HON:=hJ hon
 have HR:Hid (qbt (⟨⟨self,base,(sn:Int),sent,Av,cv,vs,Al,cl,log,Ap,cp,pend,Am,cm,marks,Af,cf,fls⟩,Ak,ck,pk,Ad,cd,dl⟩:CM).cs ⟨kind,num,first,mst,pay,ents⟩=if 0<ents.length∧v1=true∧v2=true∧(on:Int)≤sent then {(⟨⟨self,base,(sn:Int),sent,Av,cv,vs,Al,cl,log,Ap,cp,pend,Am,cm,marks,Af,cf,fls⟩,Ak,ck,pk,Ad,cd,dl⟩:CM).cs with s:={(⟨⟨self,base,(sn:Int),sent,Av,cv,vs,Al,cl,log,Ap,cp,pend,Am,cm,marks,Af,cf,fls⟩,Ak,ck,pk,Ad,cd,dl⟩:CM).cs.s with base:=num,log:=ents}} else (⟨⟨self,base,(sn:Int),sent,Av,cv,vs,Al,cl,log,Ap,cp,pend,Am,cm,marks,Af,cf,fls⟩,Ak,ck,pk,Ad,cd,dl⟩:CM).cs):=hJ (by unfold qbt;rw[←hv1,←hv2,←hon];rfl)
 clear hv1 hv2 hon;have hsc:sn≤cl:=by have:=hcl.1;omega
 go_enter Tryz.func146,Tryz.ntmps146
 go_upto_region 1 with fail
 generalize (w.alloc (.cells #[Jq kind,Jq num,Jq first,Jq mst,.string (qax pay),.slice Ae ents.length ce] 110))=u0 at *
 by_cases h0:0<ents.length
 rotate_left
 ·have h0':ents=[]:=List.eq_nil_of_length_eq_zero (by omega)
  subst h0'
  clear h0;refine qac 43 (fun w'=>Cq w' p 0 (Jq self)∧Cq w' p 3 (.slice Al log.length cl)∧Cq w' p 4 (Jq (sn:Int))∧Cq w' p 5 (Jq sent)∧w'.cell? (Pw w 1)=some (Jq num)∧w'.cell? (Pw w 5)=some (.slice Ae 0 ce)) (by kernel_rfl) ⟨(C0.out.ext Ext.drew1).cell 0,(C0.out.ext Ext.drew1).cell 3,(C0.out.ext Ext.drew1).cell 4,(C0.out.ext Ext.drew1).cell 5,(M0.out.ext Ext.drew1).cell 1,(M0.out.ext Ext.drew1).cell 5⟩ (fun hHeld=>?_)
  have hx2:Ext u0 u0.drew:=Ext.drew1
  replace C0:=hJ (C0.out.ext hx2);replace M0:=hJ (M0.out.ext hx2);replace E0:=hJ (E0.out.trans hx2);replace O0:=hJ (O0.out.ext hx2);clear hx2
  generalize u0.drew=u1 at *
  refine E_t 0 4 ?_;refine E_t 1 5 ?_;refine E_t 2 6 ?_;refine E_t 3 7 ?_;refine E_t 4 8 ?_;refine E_s 5 9 ?_;refine E_s 6 10 ?_;refine E_s 7 11 ?_;refine E_s 8 12 ?_;refine E_s 9 13 ?_;refine E_t 10 14 ?_;refine E_t 11 15 ?_;refine E_s 12 16 ?_;refine E_s 13 17 ?_;refine E_s 14 18 ?_;refine E_s 15 19 ?_;refine E_s 16 20 ?_;refine E_s 17 21 ?_;refine E_s 18 22 ?_;refine E_s 19 23 ?_;refine E_s 20 24 ?_;refine E_s 21 25 ?_;refine E_s 22 26 ?_;refine E_s 23 27 ?_;refine E_s 24 28 ?_;refine E_s 25 29 ?_;refine E_t 26 30 ?_;refine E_t 27 31 ?_;refine E_s 28 32 ?_;refine E_s 29 33 ?_;refine E_s 30 34 ?_;refine E_s 31 35 ?_;refine E_s 32 36 ?_;refine E_s 33 37 ?_;refine E_s 34 38 ?_;refine E_s 35 39 ?_;refine E_s 36 40 ?_;refine E_s 37 41 ?_;refine E_s 38 42 ?_;refine E_s 39 43 ?_;refine E_s 40 44 ?_;refine E_s 41 45 ?_;refine E_t 42 46 ?_;refine qaE (by kernel_rfl) (by rfl) ?_
  exact qeR
 have h0':(0:Int)<(ents.length:Int):=by omega
 have h0e:¬ents=[]:=by intro e;rw[e] at h0;simp at h0
 cases v1
 ·refine qac 43 (fun w'=>Cq w' p 0 (Jq self)∧Cq w' p 3 (.slice Al log.length cl)∧Cq w' p 4 (Jq (sn:Int))∧Cq w' p 5 (Jq sent)∧w'.cell? (Pw w 1)=some (Jq num)∧w'.cell? (Pw w 5)=some (.slice Ae ents.length ce)) (by kernel_rfl) ⟨(C0.out.ext Ext.drew1).cell 0,(C0.out.ext Ext.drew1).cell 3,(C0.out.ext Ext.drew1).cell 4,(C0.out.ext Ext.drew1).cell 5,(M0.out.ext Ext.drew1).cell 1,(M0.out.ext Ext.drew1).cell 5⟩ (fun hHeld=>?_)
  have hx2:Ext u0 u0.drew:=Ext.drew1
  replace C0:=hJ (C0.out.ext hx2);replace M0:=hJ (M0.out.ext hx2);replace E0:=hJ (E0.out.trans hx2);replace O0:=hJ (O0.out.ext hx2);clear hx2
  generalize u0.drew=u1 at *
  refine E_t 0 4 ?_;refine E_t 1 5 ?_;refine E_t 2 6 ?_;refine E_t 3 7 ?_;refine E_t 4 8 ?_;refine E_t 5 9 ?_;refine E_t 6 10 ?_;refine E_t 7 11 ?_;refine E_t 8 12 ?_;refine E_r 9 (some 13) fun K hK=>?_
  go_simp;go_at_call 89;refine(qc4 Ae ce ents num _ O0.out (by omega) (fun e he=>Nat.le_trans (HEP.out e he) (by omega))).mono ?_
  rintro en w9 ⟨rfl,hx2⟩
  rw[HV1.out]
  replace C0:=hJ (C0.out.ext hx2);replace M0:=hJ (M0.out.ext hx2);replace E0:=hJ (E0.out.trans hx2);replace O0:=hJ (O0.out.ext hx2);clear hx2
  clear hHeld;refine hK.out _ _ ⟨C0.out.cell 0,C0.out.cell 3,C0.out.cell 4,C0.out.cell 5,M0.out.cell 1,M0.out.cell 5⟩ (fun hHeld=>?_)
  clear hK K;try simp only[Act.put,aP1,aP2,aP3]
  refine E_t 10 14 ?_;refine E_t 11 15 ?_;refine E_s 12 16 ?_;refine E_s 13 17 ?_;refine E_s 14 18 ?_;refine E_s 15 19 ?_;refine E_s 16 20 ?_;refine E_s 17 21 ?_;refine E_s 18 22 ?_;refine E_s 19 23 ?_;refine E_s 20 24 ?_;refine E_s 21 25 ?_;refine E_s 22 26 ?_;refine E_s 23 27 ?_;refine E_s 24 28 ?_;refine E_s 25 29 ?_;refine E_t 26 30 ?_;refine E_t 27 31 ?_;refine E_s 28 32 ?_;refine E_s 29 33 ?_;refine E_s 30 34 ?_;refine E_s 31 35 ?_;refine E_s 32 36 ?_;refine E_s 33 37 ?_;refine E_s 34 38 ?_;refine E_s 35 39 ?_;refine E_s 36 40 ?_;refine E_s 37 41 ?_;refine E_s 38 42 ?_;refine E_s 39 43 ?_;refine E_s 40 44 ?_;refine E_s 41 45 ?_;refine E_t 42 46 ?_;refine qaE (by kernel_rfl) (by rfl) ?_
  exact qeR
 cases v2
 ·refine qac 43 (fun w'=>Cq w' p 0 (Jq self)∧Cq w' p 3 (.slice Al log.length cl)∧Cq w' p 4 (Jq (sn:Int))∧Cq w' p 5 (Jq sent)∧w'.cell? (Pw w 1)=some (Jq num)∧w'.cell? (Pw w 5)=some (.slice Ae ents.length ce)) (by kernel_rfl) ⟨(C0.out.ext Ext.drew1).cell 0,(C0.out.ext Ext.drew1).cell 3,(C0.out.ext Ext.drew1).cell 4,(C0.out.ext Ext.drew1).cell 5,(M0.out.ext Ext.drew1).cell 1,(M0.out.ext Ext.drew1).cell 5⟩ (fun hHeld=>?_)
  have hx2:Ext u0 u0.drew:=Ext.drew1
  replace C0:=hJ (C0.out.ext hx2);replace M0:=hJ (M0.out.ext hx2);replace E0:=hJ (E0.out.trans hx2);replace O0:=hJ (O0.out.ext hx2);clear hx2
  generalize u0.drew=u1 at *
  refine E_t 0 4 ?_;refine E_t 1 5 ?_;refine E_t 2 6 ?_;refine E_t 3 7 ?_;refine E_t 4 8 ?_;refine E_t 5 9 ?_;refine E_t 6 10 ?_;refine E_t 7 11 ?_;refine E_t 8 12 ?_;refine E_r 9 (some 13) fun K hK=>?_
  go_simp;go_at_call 89;refine(qc4 Ae ce ents num _ O0.out (by omega) (fun e he=>Nat.le_trans (HEP.out e he) (by omega))).mono ?_
  rintro en w9 ⟨rfl,hx2⟩
  rw[HV1.out]
  replace C0:=hJ (C0.out.ext hx2);replace M0:=hJ (M0.out.ext hx2);replace E0:=hJ (E0.out.trans hx2);replace O0:=hJ (O0.out.ext hx2);clear hx2
  clear hHeld;refine hK.out _ _ ⟨C0.out.cell 0,C0.out.cell 3,C0.out.cell 4,C0.out.cell 5,M0.out.cell 1,M0.out.cell 5⟩ (fun hHeld=>?_)
  clear hK K;try simp only[Act.put,aP1,aP2,aP3]
  refine E_t 10 14 ?_;refine E_t 11 15 ?_;refine E_t 12 16 ?_;refine E_t 13 17 ?_;refine E_t 14 18 ?_;refine E_t 15 19 ?_;refine E_t 16 20 ?_;refine E_t 17 21 ?_;refine E_t 18 22 ?_;refine E_t 19 23 ?_;refine E_t 20 24 ?_;refine E_t 21 25 ?_;refine E_t 22 26 ?_;refine E_t 23 27 ?_;refine E_t 24 28 ?_;refine E_r 25 (some 29) fun K hK=>?_
  go_simp;go_at_call 130;refine(qcO Ae Al ce cl sn ents (log.take sn) _ O0.out (C0.out.lies.log.row.take_ents sn) (by omega) (by rw[List.length_take];omega) hk1).mono ?_
  rintro en w25 ⟨rfl,hx2⟩
  rw[HV2.out]
  replace C0:=hJ (C0.out.ext hx2);replace M0:=hJ (M0.out.ext hx2);replace E0:=hJ (E0.out.trans hx2);replace O0:=hJ (O0.out.ext hx2);clear hx2
  clear hHeld;refine hK.out _ _ ⟨C0.out.cell 0,C0.out.cell 3,C0.out.cell 4,C0.out.cell 5,M0.out.cell 1,M0.out.cell 5⟩ (fun hHeld=>?_)
  clear hK K;try simp only[Act.put,aP1,aP2,aP3]
  refine E_t 26 30 ?_;refine E_t 27 31 ?_;refine E_s 28 32 ?_;refine E_s 29 33 ?_;refine E_s 30 34 ?_;refine E_s 31 35 ?_;refine E_s 32 36 ?_;refine E_s 33 37 ?_;refine E_s 34 38 ?_;refine E_s 35 39 ?_;refine E_s 36 40 ?_;refine E_s 37 41 ?_;refine E_s 38 42 ?_;refine E_s 39 43 ?_;refine E_s 40 44 ?_;refine E_s 41 45 ?_;refine E_t 42 46 ?_;refine qaE (by kernel_rfl) (by rfl) ?_
  exact qeR
 by_cases hs:(on:Int)≤sent
 rotate_left
 ·have hs':decide ((on:Int)≤sent)=false:=by simpa using hs
  refine qac 43 (fun w'=>Cq w' p 0 (Jq self)∧Cq w' p 3 (.slice Al log.length cl)∧Cq w' p 4 (Jq (sn:Int))∧Cq w' p 5 (Jq sent)∧w'.cell? (Pw w 1)=some (Jq num)∧w'.cell? (Pw w 5)=some (.slice Ae ents.length ce)) (by kernel_rfl) ⟨(C0.out.ext Ext.drew1).cell 0,(C0.out.ext Ext.drew1).cell 3,(C0.out.ext Ext.drew1).cell 4,(C0.out.ext Ext.drew1).cell 5,(M0.out.ext Ext.drew1).cell 1,(M0.out.ext Ext.drew1).cell 5⟩ (fun hHeld=>?_)
  have hx2:Ext u0 u0.drew:=Ext.drew1
  replace C0:=hJ (C0.out.ext hx2);replace M0:=hJ (M0.out.ext hx2);replace E0:=hJ (E0.out.trans hx2);replace O0:=hJ (O0.out.ext hx2);clear hx2
  generalize u0.drew=u1 at *
  refine E_t 0 4 ?_;refine E_t 1 5 ?_;refine E_t 2 6 ?_;refine E_t 3 7 ?_;refine E_t 4 8 ?_;refine E_t 5 9 ?_;refine E_t 6 10 ?_;refine E_t 7 11 ?_;refine E_t 8 12 ?_;refine E_r 9 (some 13) fun K hK=>?_
  go_simp;go_at_call 89;refine(qc4 Ae ce ents num _ O0.out (by omega) (fun e he=>Nat.le_trans (HEP.out e he) (by omega))).mono ?_
  rintro en w9 ⟨rfl,hx2⟩
  rw[HV1.out]
  replace C0:=hJ (C0.out.ext hx2);replace M0:=hJ (M0.out.ext hx2);replace E0:=hJ (E0.out.trans hx2);replace O0:=hJ (O0.out.ext hx2);clear hx2
  clear hHeld;refine hK.out _ _ ⟨C0.out.cell 0,C0.out.cell 3,C0.out.cell 4,C0.out.cell 5,M0.out.cell 1,M0.out.cell 5⟩ (fun hHeld=>?_)
  clear hK K;try simp only[Act.put,aP1,aP2,aP3]
  refine E_t 10 14 ?_;refine E_t 11 15 ?_;refine E_t 12 16 ?_;refine E_t 13 17 ?_;refine E_t 14 18 ?_;refine E_t 15 19 ?_;refine E_t 16 20 ?_;refine E_t 17 21 ?_;refine E_t 18 22 ?_;refine E_t 19 23 ?_;refine E_t 20 24 ?_;refine E_t 21 25 ?_;refine E_t 22 26 ?_;refine E_t 23 27 ?_;refine E_t 24 28 ?_;refine E_r 25 (some 29) fun K hK=>?_
  go_simp;go_at_call 130;refine(qcO Ae Al ce cl sn ents (log.take sn) _ O0.out (C0.out.lies.log.row.take_ents sn) (by omega) (by rw[List.length_take];omega) hk1).mono ?_
  rintro en w25 ⟨rfl,hx2⟩
  rw[HV2.out]
  replace C0:=hJ (C0.out.ext hx2);replace M0:=hJ (M0.out.ext hx2);replace E0:=hJ (E0.out.trans hx2);replace O0:=hJ (O0.out.ext hx2);clear hx2
  clear hHeld;refine hK.out _ _ ⟨C0.out.cell 0,C0.out.cell 3,C0.out.cell 4,C0.out.cell 5,M0.out.cell 1,M0.out.cell 5⟩ (fun hHeld=>?_)
  clear hK K;try simp only[Act.put,aP1,aP2,aP3]
  refine E_t 26 30 ?_;refine E_t 27 31 ?_;refine E_t 28 32 ?_;refine E_t 29 33 ?_;refine E_t 30 34 ?_;refine E_t 31 35 ?_;refine E_t 32 36 ?_;refine E_t 33 37 ?_;refine E_t 34 38 ?_;refine E_t 36 40 ?_;refine E_t 37 41 ?_;refine E_t 38 42 ?_;refine E_t 39 43 ?_;refine E_t 40 44 ?_;refine E_r 35 (some 39) fun K hK=>?_
  go_simp;go_at_call 91;refine(qck Ae ce ents self _ O0.out (by omega)).mono ?_
  rintro en w35 ⟨rfl,hx2⟩
  rw[HON.out]
  replace C0:=hJ (C0.out.ext hx2);replace M0:=hJ (M0.out.ext hx2);replace E0:=hJ (E0.out.trans hx2);replace O0:=hJ (O0.out.ext hx2);clear hx2
  clear hHeld;refine hK.out _ _ ⟨C0.out.cell 0,C0.out.cell 3,C0.out.cell 4,C0.out.cell 5,M0.out.cell 1,M0.out.cell 5⟩ (fun hHeld=>?_)
  clear hK K;try simp only[Act.put,aP1,aP2,aP3]
  refine E_t 41 45 ?_;refine E_t 42 46 ?_;refine qaE (by kernel_rfl) (by rfl) ?_
  go_wp2;go_end0;rw[HR.out,if_neg (fun e=>by have:=e.2.2.2;omega)]
  exact⟨_,col,rfl,C0.out,rfl,Stp.ext' H.out.Bsz E0.out⟩
 have hs':decide ((on:Int)≤sent)=true:=by simpa using hs
 refine qac 43 (fun w'=>Cq w' p 0 (Jq self)∧Cq w' p 3 (.slice Al log.length cl)∧Cq w' p 4 (Jq (sn:Int))∧Cq w' p 5 (Jq sent)∧w'.cell? (Pw w 1)=some (Jq num)∧w'.cell? (Pw w 5)=some (.slice Ae ents.length ce)) (by kernel_rfl) ⟨(C0.out.ext Ext.drew1).cell 0,(C0.out.ext Ext.drew1).cell 3,(C0.out.ext Ext.drew1).cell 4,(C0.out.ext Ext.drew1).cell 5,(M0.out.ext Ext.drew1).cell 1,(M0.out.ext Ext.drew1).cell 5⟩ (fun hHeld=>?_)
 have hx2:Ext u0 u0.drew:=Ext.drew1
 replace C0:=hJ (C0.out.ext hx2);replace M0:=hJ (M0.out.ext hx2);replace E0:=hJ (E0.out.trans hx2);replace O0:=hJ (O0.out.ext hx2);clear hx2
 generalize u0.drew=u1 at *
 refine E_t 0 4 ?_;refine E_t 1 5 ?_;refine E_t 2 6 ?_;refine E_t 3 7 ?_;refine E_t 4 8 ?_;refine E_t 5 9 ?_;refine E_t 6 10 ?_;refine E_t 7 11 ?_;refine E_t 8 12 ?_;refine E_r 9 (some 13) fun K hK=>?_
 go_simp;go_at_call 89;refine(qc4 Ae ce ents num _ O0.out (by omega) (fun e he=>Nat.le_trans (HEP.out e he) (by omega))).mono ?_
 rintro en w9 ⟨rfl,hx2⟩
 rw[HV1.out]
 replace C0:=hJ (C0.out.ext hx2);replace M0:=hJ (M0.out.ext hx2);replace E0:=hJ (E0.out.trans hx2);replace O0:=hJ (O0.out.ext hx2);clear hx2
 clear hHeld;refine hK.out _ _ ⟨C0.out.cell 0,C0.out.cell 3,C0.out.cell 4,C0.out.cell 5,M0.out.cell 1,M0.out.cell 5⟩ (fun hHeld=>?_)
 clear hK K;try simp only[Act.put,aP1,aP2,aP3]
 refine E_t 10 14 ?_;refine E_t 11 15 ?_;refine E_t 12 16 ?_;refine E_t 13 17 ?_;refine E_t 14 18 ?_;refine E_t 15 19 ?_;refine E_t 16 20 ?_;refine E_t 17 21 ?_;refine E_t 18 22 ?_;refine E_t 19 23 ?_;refine E_t 20 24 ?_;refine E_t 21 25 ?_;refine E_t 22 26 ?_;refine E_t 23 27 ?_;refine E_t 24 28 ?_;refine E_r 25 (some 29) fun K hK=>?_
 go_simp;go_at_call 130;refine(qcO Ae Al ce cl sn ents (log.take sn) _ O0.out (C0.out.lies.log.row.take_ents sn) (by omega) (by rw[List.length_take];omega) hk1).mono ?_
 rintro en w25 ⟨rfl,hx2⟩
 rw[HV2.out]
 replace C0:=hJ (C0.out.ext hx2);replace M0:=hJ (M0.out.ext hx2);replace E0:=hJ (E0.out.trans hx2);replace O0:=hJ (O0.out.ext hx2);clear hx2
 clear hHeld;refine hK.out _ _ ⟨C0.out.cell 0,C0.out.cell 3,C0.out.cell 4,C0.out.cell 5,M0.out.cell 1,M0.out.cell 5⟩ (fun hHeld=>?_)
 clear hK K;try simp only[Act.put,aP1,aP2,aP3]
 refine E_t 26 30 ?_;refine E_t 27 31 ?_;refine E_t 28 32 ?_;refine E_t 29 33 ?_;refine E_t 30 34 ?_;refine E_t 31 35 ?_;refine E_t 32 36 ?_;refine E_t 33 37 ?_;refine E_t 34 38 ?_;refine E_t 36 40 ?_;refine E_t 37 41 ?_;refine E_t 38 42 ?_;refine E_t 39 43 ?_;refine E_t 40 44 ?_;refine E_r 35 (some 39) fun K hK=>?_
 go_simp;go_at_call 91;refine(qck Ae ce ents self _ O0.out (by omega)).mono ?_
 rintro en w35 ⟨rfl,hx2⟩
 rw[HON.out]
 replace C0:=hJ (C0.out.ext hx2);replace M0:=hJ (M0.out.ext hx2);replace E0:=hJ (E0.out.trans hx2);replace O0:=hJ (O0.out.ext hx2);clear hx2
 clear hHeld;refine hK.out _ _ ⟨C0.out.cell 0,C0.out.cell 3,C0.out.cell 4,C0.out.cell 5,M0.out.cell 1,M0.out.cell 5⟩ (fun hHeld=>?_)
 clear hK K;try simp only[Act.put,aP1,aP2,aP3]
 refine E_t 41 45 ?_;refine E_t 42 46 ?_;refine qaE (by kernel_rfl) (by rfl) ?_
 go_upto_region 2 with fail
 rw[if_pos ⟨h0,rfl,rfl,hs⟩] at HR
 have hne:w.heap.size≠p:=Nat.ne_of_gt hpl
 obtain⟨uE,rfl⟩:∃x,x=w35:=⟨_,rfl⟩
 refine qac 14 (fun w'=>w'.cell? (Pw w 1)=some (Jq num)∧w'.cell? (Pw w 5)=some (.slice Ae ents.length ce)) (by kernel_rfl) ⟨(M0.out.ext Ext.drew1).cell 1,(M0.out.ext Ext.drew1).cell 5⟩ (fun hHeld=>?_)
 have hx2:Ext uE uE.drew:=Ext.drew1
 replace C0:=hJ (C0.out.ext hx2);replace M0:=hJ (M0.out.ext hx2);replace E0:=hJ (E0.out.trans hx2);replace O0:=hJ (O0.out.ext hx2);clear hx2
 generalize uE.drew=u9 at *
 refine E_t 0 47 ?_;refine E_t 1 48 ?_;refine E_t 2 49 ?_;refine E_t 3 50 ?_;refine E_t 4 51 ?_;refine E_t 5 52 ?_;refine E_t 6 53 ?_;refine E_t 7 54 ?_;refine E_t 8 55 ?_;refine E_r 9 none fun K hK=>?_
 have y2:u9.cell? (Pq p 2)=some (Jq base):=C0.out.cell 2
 have f2:=C0.out.free 2
 go_simp;have BX1:Hid (BIs (u9.setCell (Pq p 2) (Jq num)) p (⟨⟨self,num,(sn:Int),sent,Av,cv,vs,Al,cl,log,Ap,cp,pend,Am,cm,marks,Af,cf,fls⟩,Ak,ck,pk,Ad,cd,dl⟩:CM).cells 86):=hJ (C0.out.box.set 2 _)
 have M1:Hid (BIs (u9.setCell (Pq p 2) (Jq num)) w.heap.size #[Jq kind,Jq num,Jq first,Jq mst,.string (qax pay),.slice Ae ents.length ce] 110):=hJ (M0.out.wrote hne (Wrote.set _ _ _ _))
 clear hHeld;refine hK.out _ _ ⟨M1.out.cell 1,M1.out.cell 5⟩ (fun hHeld=>?_)
 clear hK K;try simp only[Act.put,aP1,aP2,aP3]
 refine E_t 10 56 ?_;refine E_t 11 57 ?_;refine E_t 12 58 ?_;refine E_r 13 none fun K hK=>?_
 have y3:(u9.setCell (Pq p 2) (Jq num)).cell? (Pq p 3)=some (.slice Al log.length cl):=BX1.out.cell 3
 have f3:=BX1.out.free 3
 go_simp;have M2:Hid (BIs ((u9.setCell (Pq p 2) (Jq num)).setCell (Pq p 3) (.slice Ae ents.length ce)) w.heap.size #[Jq kind,Jq num,Jq first,Jq mst,.string (qax pay),.slice Ae ents.length ce] 110):=hJ (M1.out.wrote hne (Wrote.set _ _ _ _))
 clear hHeld;refine hK.out _ _ ⟨M2.out.cell 1,M2.out.cell 5⟩ (fun hHeld=>?_)
 clear hK K;try simp only[Act.put,aP1,aP2,aP3]
 refine qaE (by kernel_rfl) (by rfl) ?_
 go_wp2;go_end0;have hpc:col p=1:=H.out.pc
 have S4:Stp B [1] col u9 col ((u9.setCell (Pq p 2) (Jq num)).setCell (Pq p 3) (.slice Ae ents.length ce)):=Stp.wrote ((Wrote.set p 2 u9 _).trans (Wrote.set p 3 _ _)) H.out.bp C0.out.Bsz (by rw[hpc];simp)
 refine⟨⟨⟨self,num,(sn:Int),sent,Av,cv,vs,Ae,ce,ents,Ap,cp,pend,Am,cm,marks,Af,cf,fls⟩,Ak,ck,pk,Ad,cd,dl⟩,col,rfl,?_,?_,?_⟩
 ·have h:=C0.out
  have hf:=h.fits
  have x:=h.lies.relog S4 (by simp) (by simp) (by simp) (by simp) (S4.own (HO.out.ext E0.out) HCE.out (by simp)) (S4.colV (HO.out.ext E0.out) HCE.out)
  refine⟨BX1.out.set 3 _,hpc,h.bp,⟨x.vs,x.vc,x.vi,x.log,x.lc,x.pend,x.pc,x.marks,x.mc,x.fls,x.fc,x.fi⟩,S4.own h.pk h.kc (by simp),S4.colV h.pk h.kc,h.kiK S4 (by simp),S4.own h.dl h.dc (by simp),S4.colV h.dl h.dc,?_,h.cp⟩
  exact⟨hf.vs,hf.vx,by show ents.length≤100000;omega,fun e he=>Nat.le_trans (HEP.out e he) (by omega),hf.pend,hf.pp,hf.marks,hf.fls,hf.fl,hk1,hk2⟩
 ·rw[HR.out];rfl
 ·exact((Stp.ext (cs:=[1]) H.out.Bsz E0.out (fun _ _=>rfl)).trans S4).mono (cs':=[1,2,3,4,5,7]) (by simp)
theorem qiR {P : Prop} (h : P := by
 rw[hh] at HS2
 go_wp2;refine qac 12 (fun w'=>Cq w' p 0 (Jq self)∧Cq w' wr.heap.size 0 (Jq f.m)) (by kernel_rfl) ⟨CU.out.cell 0,FU.out.cell 0⟩ (fun hHeld=>?_)
 refine E_t 0 24 ?_;refine E_t 1 25 ?_;refine E_t 2 26 ?_;refine E_t 3 27 ?_;refine E_t 4 28 ?_;refine E_t 5 29 ?_;refine E_t 6 30 ?_;refine E_t 7 31 ?_;refine E_t 8 32 ?_;refine E_t 9 33 ?_;refine E_t 10 34 ?_;refine E_t 11 3 ?_;refine qaE (by kernel_rfl) (by rfl) ?_
 go_wp2;go_roundw
 case rel=>exact⟨k+1,by omega,by go_num,by rw[HS1.out],by rw[HS2.out],hJ (HX.out.trans X1.out.drew)⟩
 case measure=>simp[intOf];omega) : P := h
def bmK(fls:List FlM)(k:Nat):Int:=(fls.take k).foldl (fun b f=>max b f.b) (-1)
def qky(fls:List FlM)(self:Int)(k:Nat):Bool:=(fls.take k).any fun f=>f.m == self
theorem qq3(fls:List FlM):qaF (fls.map FlM.v)=bmK fls fls.length:=by
 unfold qaF bmK
 rw[List.foldl_map,List.take_length]
 rfl
theorem qp8{fls:List FlM}{k:Nat}{f:FlM}(h:fls[k]?=some f):bmK fls (k+1)=max (bmK fls k) f.b:=by
 unfold bmK
 rw[List.take_add_one,h,List.foldl_append]
 rfl
theorem qmC(fls:List FlM)(self:Int):qky fls self fls.length=fls.any fun f=>f.m == self:=by
 unfold qky
 rw[List.take_length]
theorem ql1{fls:List FlM}{self:Int}{k:Nat}{f:FlM}(h:fls[k]?=some f):qky fls self (k+1)=(qky fls self k||f.m == self):=by
 unfold qky
 rw[List.take_add_one,h,List.any_append]
 simp
theorem qlL(m:CM){T:Int}{xs:List Int}(h:qaf (vws m.b.vs)=(T,xs)):qaZ m.cs.s=if (m.b.fls.any fun f=>f.m == m.b.self)=false∨qaF (m.b.fls.map FlM.v) = -1 then m.cs.s else if (m.b.vs.any fun v=>decide (qaF (m.b.fls.map FlM.v)≤v.n)&&(decide (v.n<T)&&!qdi (m.b.fls.map FlM.v) (v.n,v.xs))) then m.cs.s else if qgM m.cs.s (qaW (m.b.fls.map FlM.v) (qaF (m.b.fls.map FlM.v)))=false then m.cs.s else {m.cs.s with base:=T,log:=qaW (m.b.fls.map FlM.v) (qaF (m.b.fls.map FlM.v))++[qab T xs],fls:=[]}:=by
 have e1:qlF m.cs.s=m.b.fls.any fun f=>f.m == m.b.self:=by
  show (m.b.fls.map FlM.v).any _=_
  rw[List.any_map];rfl
 have e2:qgm m.cs.s=m.b.vs.any fun v=>decide (qaF (m.b.fls.map FlM.v)≤v.n)&&(decide (v.n<T)&&!qdi (m.b.fls.map FlM.v) (v.n,v.xs)):=by
  show (vws m.b.vs).any _=_
  have e3:(qaf m.cs.s.views)=(T,xs):=h
  unfold vws
  rw[List.any_map,e3];rfl
 have e3:(qaf m.cs.s.views)=(T,xs):=h
 unfold qaZ
 rw[e1,e2,e3]
 rfl
theorem qkf{fls:List FlM}(h:∀f∈fls,f.log.length≤100000∧∀e∈f.log,e.p.length≤1000000)(base:Int):(qaW (fls.map FlM.v) base).length≤100000∧∀e∈qaW (fls.map FlM.v) base,e.p.length≤1000000:=by
 rcases qen base (fls.map FlM.v) [] with h1|⟨f,hf,_,h1⟩
 ·unfold qaW;rw[h1];exact⟨Nat.zero_le _,fun e he=>by cases he⟩
 ·unfold qaW;rw[h1]
  obtain⟨g,hg,rfl⟩:=List.mem_map.1 hf
  exact h g hg
theorem qqk(m:CM)(B:Nat)(col:Nat→Nat)(p:Nat)(bs:Int)(w:World)(LG:List Ent)(hl:LG=qaW (m.b.fls.map FlM.v) bs)(h:CS w B col p m) :
  Calls Tryz.prog 129 #[.pointer (some (Pq p 0)),Jq bs] w fun en w'=>∃A c,en=.returned (.slice A LG.length c)∧LG.length≤c∧c≤maxLen∧Row w' A (qaz.cells LG)∧Ext w w':=by
 subst hl;exact qlY m B col p bs w h
theorem CS.reinst{B p:Nat}{col:Nat→Nat}{w w':World}{m:CM}(h:CS w B col p m)(s:Stp B [1] col w col w'){T:Int}{A:Option Addr}{c:Nat}{l:List Ent}(hb:BIs w' p ({m with b:={m.b with base:=T,Al:=A,cl:=c,log:=l,Af:=none,cf:=0,fls:=[]}}:CM).cells 86)
  (ho:qaz.Own w' B (.slice A l.length c) l) (hc:ColV col 2 (.slice A l.length c)) (hn:l.length≤100000) (hp:∀e∈l,e.p.length≤1000000) (hcl:l.length≤c∧c≤maxLen) :
  CS w' B col p {m with b:={m.b with base:=T,Al:=A,cl:=c,log:=l,Af:=none,cf:=0,fls:=[]}}:=by
 have hf:=h.fits
 have x:=h.lies.relog s (by simp) (by simp) (by simp) (by simp) ho hc
 refine⟨hb,h.pc,h.bp,⟨x.vs,x.vc,x.vi,x.log,x.lc,x.pend,x.pc,x.marks,x.mc,Elem.Own.nil _ _,(fun q hq=>by simp[Value.ownBlock] at hq),(fun f hf=>by cases hf)⟩,s.own h.pk h.kc (by simp),s.colV h.pk h.kc,h.kiK (s.mono (cs':=[1]) (by simp)) (by simp),s.own h.dl h.dc (by simp),s.colV h.dl h.dc,⟨hf.vs,hf.vx,hn,hp,hf.pend,hf.pp,hf.marks,Nat.zero_le _,(fun f hf=>by cases hf),hcl⟩,h.cp⟩
set_option maxHeartbeats 2000000 in
theorem qeN(m:CM)(B:Nat)(col:Nat→Nat)(p:Nat)(w:World)(h:CS w B col p m)(hvs:0<m.b.vs.length)(hst:0≤m.b.stable∧m.b.stable≤m.b.log.length)(hn:m.b.fls.length≤50000)(hvx:∀v∈m.b.vs,v.xs.length≤1000) :
  Calls Tryz.prog 56 #[.pointer (some (Pq p 0))] w (qhw B col p w {m.cs with s:=qaZ m.cs.s}):=by
 obtain⟨⟨self,base,stable,sent,Av,cv,vs,Al,cl,log,Ap,cp,pend,Am,cm,marks,Af,cf,fls⟩,Ak,ck,pk,Ad,cd,dl⟩:=m
 have hpl:=h.lt
 have hfl:=h.fits.log
 have hcl:=h.fits.cl
 have hfv:=h.fits.vs
 have HFL:=hJ h.fits.fl
 simp only at hst hfl hcl hvs hn hvx hfv HFL
 obtain⟨sn,rfl⟩:∃k:Nat,stable=(k:Int):=⟨stable.toNat,by omega⟩
 have hsc:sn≤cl:=by have:=hcl.1;omega
 have C0:=hJ h;have HVX:=hJ hvx
 have HPC:Hid (col p=1):=hJ h.pc;have HBP:Hid (B≤p):=hJ h.bp;have HBW:Hid (B≤w.heap.size):=hJ h.Bsz
 clear h hvx;obtain⟨bm,hbm⟩:∃x,x=qaF (fls.map FlM.v):=⟨_,rfl⟩
 obtain⟨mi,hmi⟩:∃x,x=fls.any (fun f=>f.m == self):=⟨_,rfl⟩
 obtain⟨LG,hlg⟩:∃x,x=qaW (fls.map FlM.v) bm:=⟨_,rfl⟩
 obtain⟨⟨T,xs⟩,hlast⟩:∃v,qaf (vws vs)=v:=⟨_,rfl⟩
 have HLAST:=hJ hlast
 clear hlast;have HRI:Hid (qaZ (⟨⟨self,base,(sn:Int),sent,Av,cv,vs,Al,cl,log,Ap,cp,pend,Am,cm,marks,Af,cf,fls⟩,Ak,ck,pk,Ad,cd,dl⟩:CM).cs.s=if mi=false∨bm = -1 then (⟨⟨self,base,(sn:Int),sent,Av,cv,vs,Al,cl,log,Ap,cp,pend,Am,cm,marks,Af,cf,fls⟩,Ak,ck,pk,Ad,cd,dl⟩:CM).cs.s else if (vs.any fun v=>decide (bm≤v.n)&&(decide (v.n<T)&&!qdi (fls.map FlM.v) (v.n,v.xs))) then (⟨⟨self,base,(sn:Int),sent,Av,cv,vs,Al,cl,log,Ap,cp,pend,Am,cm,marks,Af,cf,fls⟩,Ak,ck,pk,Ad,cd,dl⟩:CM).cs.s else if qgM (⟨⟨self,base,(sn:Int),sent,Av,cv,vs,Al,cl,log,Ap,cp,pend,Am,cm,marks,Af,cf,fls⟩,Ak,ck,pk,Ad,cd,dl⟩:CM).cs.s LG=false then (⟨⟨self,base,(sn:Int),sent,Av,cv,vs,Al,cl,log,Ap,cp,pend,Am,cm,marks,Af,cf,fls⟩,Ak,ck,pk,Ad,cd,dl⟩:CM).cs.s else {(⟨⟨self,base,(sn:Int),sent,Av,cv,vs,Al,cl,log,Ap,cp,pend,Am,cm,marks,Af,cf,fls⟩,Ak,ck,pk,Ad,cd,dl⟩:CM).cs.s with base:=T,log:=LG++[qab T xs],fls:=[]}):=hJ (by
  rw[hlg,hbm,hmi]
  exact qlL (⟨⟨self,base,(sn:Int),sent,Av,cv,vs,Al,cl,log,Ap,cp,pend,Am,cm,marks,Af,cf,fls⟩,Ak,ck,pk,Ad,cd,dl⟩:CM) HLAST.out)
 have hlgl:LG.length≤100000∧∀e∈LG,e.p.length≤1000000:=by rw[hlg];exact qkf HFL.out bm
 have HLGP:=hJ hlgl.2
 have hlg0:=hlgl.1
 clear hlgl;have HBM:=hJ hbm;have HMI:=hJ hmi;have HLG:=hJ hlg
 clear hbm hmi hlg HFL;have HB:Hid (flE.Box w Af fls):=hJ C0.out.lies.reads.fls
 have q8:w.cell? (Pq p 8)=some (.slice Af fls.length cf):=C0.out.cell 8
 go_enter Tryz.func56,Tryz.ntmps56
 go_wp2;go_loopw [2,3,16] (fun b mn i wr=>∃(k:Nat),k≤fls.length∧i=Jq k∧b=Jq (bmK fls k)∧mn=.bool (qky fls self k)∧Hid (Ext w wr)) (fun _ _ i _=>fls.length - (intOf i).toNat)
 case atStart=>exact⟨0,Nat.zero_le _,rfl,rfl,rfl,hJ (Ext.refl _)⟩
 case round=>
  obtain⟨k,hk,rfl,rfl,rfl,HX⟩:=hrel
  obtain⟨bk,hbk⟩:∃x,x=bmK fls k:=⟨_,rfl⟩
  obtain⟨mk,hmk⟩:∃x,x=qky fls self k:=⟨_,rfl⟩
  rw[←hbk,←hmk]
  have HBK:=hJ hbk;have HMK:=hJ hmk
  clear hbk hmk;by_cases hlt:k<fls.length
  ·obtain⟨bb,off,f,rfl,hb,c0,c1,c2,HFR,HF⟩:=qgC (HB.out.ext HX.out) hlt
   have CR:=hJ (C0.out.ext HX.out)
   have q0:wr.cell? (Pq p 0)=some (Jq self):=CR.out.cell 0
   have hpw:p<wr.heap.size:=CR.out.lt
   have HS1:=hJ (qp8 HF.out);have HS2:=hJ (ql1 (self:=self) HF.out)
   rw[←HBK.out] at HS1;rw[←HMK.out] at HS2
   have X1:Hid (Ext wr (wr.alloc (.cells #[Jq f.m,Jq f.b,.slice f.A f.log.length f.c] 80))):=hJ (Ext.new _ _)
   have CU:=hJ (CR.out.ext X1.out.drew)
   have FU:Hid (BIs (wr.alloc (.cells #[Jq f.m,Jq f.b,.slice f.A f.log.length f.c] 80)).drew wr.heap.size #[Jq f.m,Jq f.b,.slice f.A f.log.length f.c] 80):=hJ ((BIs.new _ _ _).ext Ext.drew1)
   cases mk with
   | true=>
    rw[Bool.true_or] at HS2
    go_wp2;refine qac 12 (fun w'=>Cq w' p 0 (Jq self)∧Cq w' wr.heap.size 0 (Jq f.m)) (by kernel_rfl) ⟨CU.out.cell 0,FU.out.cell 0⟩ (fun hHeld=>?_)
    refine E_t 0 24 ?_;refine E_t 1 25 ?_;refine E_s 2 26 ?_;refine E_s 3 27 ?_;refine E_s 4 28 ?_;refine E_s 5 29 ?_;refine E_s 6 30 ?_;refine E_s 7 31 ?_;refine E_s 8 32 ?_;refine E_s 9 33 ?_;refine E_t 10 34 ?_;refine E_t 11 3 ?_;refine qaE (by kernel_rfl) (by rfl) ?_
    go_wp2;go_roundw
    case rel=>exact⟨k+1,by omega,by go_num,by rw[HS1.out],by rw[HS2.out],hJ (HX.out.trans X1.out.drew)⟩
    case measure=>simp[intOf];omega
   | false=>
    rw[Bool.false_or] at HS2
    cases hh:(f.m == self) with
    | true=>
     exact qiR
    | false=>
     exact qiR
  ·have hkl:k=fls.length:=by omega
   subst hkl
   have hb1:Hid (bk=bm):=hJ (by rw[HBK.out,HBM.out];exact(qq3 fls).symm)
   have hm1:Hid (mk=mi):=hJ (by rw[HMK.out,HMI.out];exact qmC fls self)
   clear HBK HMK;obtain rfl:=hb1.out;obtain rfl:=hm1.out
   clear hb1 hm1;have NO:∀(w':World),qaZ (⟨⟨self,base,(sn:Int),sent,Av,cv,vs,Al,cl,log,Ap,cp,pend,Am,cm,marks,Af,cf,fls⟩,Ak,ck,pk,Ad,cd,dl⟩:CM).cs.s=(⟨⟨self,base,(sn:Int),sent,Av,cv,vs,Al,cl,log,Ap,cp,pend,Am,cm,marks,Af,cf,fls⟩,Ak,ck,pk,Ad,cd,dl⟩:CM).cs.s→Ext w w'→qhw B col p w {(⟨⟨self,base,(sn:Int),sent,Av,cv,vs,Al,cl,log,Ap,cp,pend,Am,cm,marks,Af,cf,fls⟩,Ak,ck,pk,Ad,cd,dl⟩:CM).cs with s:=qaZ (⟨⟨self,base,(sn:Int),sent,Av,cv,vs,Al,cl,log,Ap,cp,pend,Am,cm,marks,Af,cf,fls⟩,Ak,ck,pk,Ad,cd,dl⟩:CM).cs.s} (.returned (.tuple #[])) w':=fun w' e x=>⟨_,col,rfl,C0.out.ext x,by rw[e],Stp.ext' HBW.out x⟩
   cases mk with
   | false=>
    go_wp2;go_end0;exact NO _ (by rw[HRI.out,if_pos (by simp)]) HX.out
   | true=>
    by_cases hb1:bk = -1
    ·have d1:(bk == -1)=true:=by simpa using hb1
     have HE:Hid (bk = -1):=hJ hb1
     clear hb1;go_wp2;go_end0;exact NO _ (by rw[HRI.out,if_pos (by simp[HE.out])]) HX.out
    have d1:(bk == -1)=false:=by simpa using hb1
    have HRJ:Hid (qaZ (⟨⟨self,base,(sn:Int),sent,Av,cv,vs,Al,cl,log,Ap,cp,pend,Am,cm,marks,Af,cf,fls⟩,Ak,ck,pk,Ad,cd,dl⟩:CM).cs.s=if (vs.any fun v=>decide (bk≤v.n)&&(decide (v.n<T)&&!qdi (fls.map FlM.v) (v.n,v.xs))) then (⟨⟨self,base,(sn:Int),sent,Av,cv,vs,Al,cl,log,Ap,cp,pend,Am,cm,marks,Af,cf,fls⟩,Ak,ck,pk,Ad,cd,dl⟩:CM).cs.s else if qgM (⟨⟨self,base,(sn:Int),sent,Av,cv,vs,Al,cl,log,Ap,cp,pend,Am,cm,marks,Af,cf,fls⟩,Ak,ck,pk,Ad,cd,dl⟩:CM).cs.s LG=false then (⟨⟨self,base,(sn:Int),sent,Av,cv,vs,Al,cl,log,Ap,cp,pend,Am,cm,marks,Af,cf,fls⟩,Ak,ck,pk,Ad,cd,dl⟩:CM).cs.s else {(⟨⟨self,base,(sn:Int),sent,Av,cv,vs,Al,cl,log,Ap,cp,pend,Am,cm,marks,Af,cf,fls⟩,Ak,ck,pk,Ad,cd,dl⟩:CM).cs.s with base:=T,log:=LG++[qab T xs],fls:=[]}):=hJ (by rw[HRI.out,if_neg (by rintro(h1|h1);cases h1;exact hb1 h1)])
    clear hb1 HRI q8;have CR:=hJ (C0.out.ext HX.out)
    have q1:wr.cell? (Pq p 1)=some (.slice Av vs.length cv):=CR.out.cell 1
    have hpw:p<wr.heap.size:=CR.out.lt
    obtain⟨wo,rfl⟩:∃x,x=wr:=⟨wr,rfl⟩
    obtain⟨⟨n',At,ct,xs'⟩,htv,hlast,hcall⟩:=qfa Av cv vs wo CR.out.lies.vs hvs (by omega)
    simp only at hlast hcall
    rw[HLAST.out] at hlast
    obtain⟨rfl,rfl⟩:=Prod.mk.inj hlast
    have hxl:xs.length≤1000:=HVX.out _ htv
    have RT:Hid (Row wo At (qam xs)):=hJ ((CR.out.lies.vs.2 _ htv).2 (At,qam xs) (by simp[qas]))
    clear hlast htv;go_wp2_with fail
    refine hcall.mono ?_
    rintro en w1 ⟨rfl,hx1⟩
    have XU:Hid (Ext wo (w1.alloc (.cells #[Jq T,.slice At xs.length ct] 46))):=hJ (hx1.trans (Ext.new _ _))
    have C1:=hJ (CR.out.ext XU.out);have E1:=hJ (HX.out.trans XU.out);have V1:Hid (BIs (w1.alloc (.cells #[Jq T,.slice At xs.length ct] 46)) w1.heap.size #[Jq T,.slice At xs.length ct] 46):=hJ (BIs.new _ _ _);have RT1:=hJ (RT.out.ext XU.out)
    have HPR:Hid (p<w1.heap.size):=hJ (Nat.lt_of_lt_of_le hpw hx1.size)
    clear hx1 hcall XU RT q1 hpw;skip
    go_upto_region 9 with fail
    generalize (w1.alloc (.cells #[Jq T,.slice At xs.length ct] 46))=u0 at *
    generalize w1.heap.size=r_t at *
    have q1:u0.cell? (Pq p 1)=some (.slice Av vs.length cv):=C1.out.cell 1
    have hpu:p<u0.heap.size:=C1.out.lt
    have hru:r_t<u0.heap.size:=V1.out.lt
    go_wp2;go_loopw [54] (fun i wr=>∃(k:Nat),k≤vs.length∧i=Jq k∧Hid (∀(i:Nat) (v:VwM),i<k→vs[i]?=some v→(decide (bk≤v.n)&&(decide (v.n<T)&&!qdi (fls.map FlM.v) (v.n,v.xs)))=false)∧Hid (Ext u0 wr)) (fun i _=>vs.length - (intOf i).toNat)
    case atStart=>exact⟨0,Nat.zero_le _,rfl,hJ (fun i y hi=>absurd hi (Nat.not_lt_zero _)),hJ (Ext.refl _)⟩
    case round=>
     obtain⟨k,hk,rfl,HK,HY⟩:=hrel
     have C2:=hJ (C1.out.ext HY.out);have V2:=hJ (V1.out.ext HY.out);have RT2:=hJ (RT1.out.ext HY.out);have E2:=hJ (E1.out.trans HY.out)
     by_cases hlt:k<vs.length
     ·obtain⟨b,off,n,X,cx,ys,hAv,hb,c0,c1,HR,h1,h2,HV⟩:=qdk C2.out.lies.vs hlt
      simp only at hAv
      subst hAv
      have yl:ys.length≤1000:=HVX.out _ (List.mem_of_getElem? HV.out)
      have t0:wr.cell? (Pq r_t 0)=some (Jq T):=V2.out.cell 0
      have htr:r_t<wr.heap.size:=V2.out.lt
      have X1:Hid (Ext wr (wr.alloc (.cells #[Jq n,.slice X ys.length cx] 46))):=hJ (Ext.new _ _)
      have STEP:((decide (bk≤n)&&(decide (n<T)&&!qdi (fls.map FlM.v) (n,ys)))=false)→Hid (∀(i:Nat) (v:VwM),i<k+1→vs[i]?=some v→(decide (bk≤v.n)&&(decide (v.n<T)&&!qdi (fls.map FlM.v) (v.n,v.xs)))=false):=fun e=>hJ (fun i v hi hv=>by
       rcases Nat.lt_or_ge i k with h1|h1
       ·exact HK.out i v h1 hv
       ·have:i=k:=by omega
        subst this
        rw[HV.out] at hv;cases hv;exact e)
      by_cases p1:bk≤n
      rotate_left
      ·have HK':=STEP (by rw[decide_eq_false p1];rfl)
       have d2:decide (bk≤n)=false:=by simpa using p1
       clear p1 STEP;go_wp2;go_roundw
       case rel=>exact⟨k+1,by omega,by go_num,HK',hJ (HY.out.trans X1.out)⟩
       case measure=>simp[intOf];omega
      have d2:decide (bk≤n)=true:=by simpa using p1
      by_cases p2:n<T
      rotate_left
      ·have HK':=STEP (by rw[decide_eq_false p2,Bool.false_and,Bool.and_false])
       have d3:decide (n<T)=false:=by simpa using p2
       clear p1 p2 STEP;go_wp2;go_roundw
       case rel=>exact⟨k+1,by omega,by go_num,HK',hJ (HY.out.trans X1.out)⟩
       case measure=>simp[intOf];omega
      have d3:decide (n<T)=true:=by simpa using p2
      clear p1 p2;have C3:=hJ (C2.out.ext X1.out)
      go_wp2_with fail
      refine(qkm _ B col p n X cx ys _ C3.out (HR.out.ext X1.out) (by omega)).mono ?_
      rintro en w4 ⟨rfl,hx4⟩
      have X4:=hJ (X1.out.trans hx4)
      clear hx4;cases hcv:qdi (fls.map FlM.v) (n,ys) with
      | true=>
       have HK':=STEP (by rw[hcv];simp)
       clear STEP X1 C3;have X1:=X4
       go_wp2;go_roundw
       case rel=>exact⟨k+1,by omega,by go_num,HK',hJ (HY.out.trans X1.out)⟩
       case measure=>simp[intOf];omega
      | false=>
       have HBL:Hid ((vs.any fun v=>(decide (bk≤v.n)&&(decide (v.n<T)&&!qdi (fls.map FlM.v) (v.n,v.xs))))=true):=hJ (List.any_eq_true.2 ⟨_,List.mem_of_getElem? HV.out,by simp only;rw[d2,d3,hcv];rfl⟩)
       go_wp2;go_end0;exact NO _ (by rw[HRJ.out,if_pos HBL.out]) (E2.out.trans X4.out)
     ·have hkl:k=vs.length:=by omega
      subst hkl
      have HRK:Hid (qaZ (⟨⟨self,base,(sn:Int),sent,Av,cv,vs,Al,cl,log,Ap,cp,pend,Am,cm,marks,Af,cf,fls⟩,Ak,ck,pk,Ad,cd,dl⟩:CM).cs.s=if qgM (⟨⟨self,base,(sn:Int),sent,Av,cv,vs,Al,cl,log,Ap,cp,pend,Am,cm,marks,Af,cf,fls⟩,Ak,ck,pk,Ad,cd,dl⟩:CM).cs.s LG=false then (⟨⟨self,base,(sn:Int),sent,Av,cv,vs,Al,cl,log,Ap,cp,pend,Am,cm,marks,Af,cf,fls⟩,Ak,ck,pk,Ad,cd,dl⟩:CM).cs.s else {(⟨⟨self,base,(sn:Int),sent,Av,cv,vs,Al,cl,log,Ap,cp,pend,Am,cm,marks,Af,cf,fls⟩,Ak,ck,pk,Ad,cd,dl⟩:CM).cs.s with base:=T,log:=LG++[qab T xs],fls:=[]}):=hJ (by rw[HRJ.out,if_neg];rw[Bool.not_eq_true,List.any_eq_false];intro v hv;obtain⟨i,hi,rfl⟩:=List.mem_iff_getElem.1 hv;rw[HK.out i _ hi (List.getElem?_eq_getElem hi)];simp)
      clear HRJ HK q1 hpu hru;obtain⟨wq,rfl⟩:∃x,x=wr:=⟨wr,rfl⟩
      go_wp2_with fail
      refine(qqk ⟨⟨self,base,(sn:Int),sent,Av,cv,vs,Al,cl,log,Ap,cp,pend,Am,cm,marks,Af,cf,fls⟩,Ak,ck,pk,Ad,cd,dl⟩ B col p bk wq LG HLG.out C2.out).mono ?_
      rintro en w5 ⟨Ac,cc,rfl,hc1,hc2,hrc,hx5⟩
      have RC:=hJ hrc
      clear hrc;have hx2:=hx5
      replace C2:=hJ (C2.out.ext hx2);replace V2:=hJ (V2.out.ext hx2);replace RT2:=hJ (RT2.out.ext hx2);replace E2:=hJ (E2.out.trans hx2);clear hx2 hx5
      go_upto_region 15 with fail
      obtain⟨on,hon⟩:∃x,qay LG self=x:=⟨_,rfl⟩
      obtain⟨v2,hv2⟩:∃x,qht LG (log.take sn)=x:=⟨_,rfl⟩
      have HON:=hJ hon;have HV2:Hid (qek LG (log.take sn)=v2):=hJ (by rw[qgR];exact hv2)
      have HFT:Hid (qgM (⟨⟨self,base,(sn:Int),sent,Av,cv,vs,Al,cl,log,Ap,cp,pend,Am,cm,marks,Af,cf,fls⟩,Ak,ck,pk,Ad,cd,dl⟩:CM).cs.s LG=(decide (LG.length<2000)&&(v2&&decide ((on:Int)≤sent)))):=hJ (by unfold qgM;rw[←hon,←hv2];rfl)
      clear hon hv2;by_cases h0:LG.length<2000
      rotate_left
      ·have h0':decide ((2000:Int)≤(LG.length:Int))=true:=by simp only[decide_eq_true_eq];omega
       have h0e:decide (LG.length<2000)=false:=by simpa using h0
       have H0:=hJ h0e
       clear h0 h0e;refine qac 34 (fun w'=>Cq w' p 0 (Jq self)∧Cq w' p 3 (.slice Al log.length cl)∧Cq w' p 4 (Jq (sn:Int))∧Cq w' p 5 (Jq sent)) (by kernel_rfl) ⟨(C2.out.ext Ext.drew1).cell 0,(C2.out.ext Ext.drew1).cell 3,(C2.out.ext Ext.drew1).cell 4,(C2.out.ext Ext.drew1).cell 5⟩ (fun hHeld=>?_)
       have hx2:Ext w5 w5.drew:=Ext.drew1
       replace C2:=hJ (C2.out.ext hx2);replace V2:=hJ (V2.out.ext hx2);replace RT2:=hJ (RT2.out.ext hx2);replace E2:=hJ (E2.out.trans hx2);replace RC:=hJ (RC.out.ext hx2);clear hx2
       generalize w5.drew=u1 at *
       refine E_t 0 79 ?_;refine E_t 1 80 ?_;refine E_t 2 81 ?_;refine E_t 3 82 ?_;refine E_s 4 83 ?_;refine E_s 5 84 ?_;refine E_s 6 85 ?_;refine E_s 7 86 ?_;refine E_s 8 87 ?_;refine E_s 9 88 ?_;refine E_s 10 89 ?_;refine E_s 11 90 ?_;refine E_s 12 91 ?_;refine E_s 13 92 ?_;refine E_s 14 93 ?_;refine E_s 15 94 ?_;refine E_s 16 95 ?_;refine E_s 17 96 ?_;refine E_t 18 97 ?_;refine E_t 19 98 ?_;refine E_s 20 99 ?_;refine E_s 21 100 ?_;refine E_s 22 101 ?_;refine E_s 23 102 ?_;refine E_s 24 103 ?_;refine E_s 25 104 ?_;refine E_s 26 105 ?_;refine E_s 27 106 ?_;refine E_s 28 107 ?_;refine E_s 29 108 ?_;refine E_s 30 109 ?_;refine E_s 31 110 ?_;refine E_s 32 111 ?_;refine E_t 33 112 ?_;refine qaE (by kernel_rfl) (by rfl) ?_
       go_wp2;go_end0;exact NO _ (by rw[HRK.out,if_pos (by rw[HFT.out];rw[H0.out];rfl)]) E2.out
      have h0':decide ((2000:Int)≤(LG.length:Int))=false:=by simp only[decide_eq_false_iff_not];omega
      have h0e:decide (LG.length<2000)=true:=by simpa using h0
      have H0:=hJ h0e
      clear h0e;cases v2
      ·refine qac 34 (fun w'=>Cq w' p 0 (Jq self)∧Cq w' p 3 (.slice Al log.length cl)∧Cq w' p 4 (Jq (sn:Int))∧Cq w' p 5 (Jq sent)) (by kernel_rfl) ⟨(C2.out.ext Ext.drew1).cell 0,(C2.out.ext Ext.drew1).cell 3,(C2.out.ext Ext.drew1).cell 4,(C2.out.ext Ext.drew1).cell 5⟩ (fun hHeld=>?_)
       have hx2:Ext w5 w5.drew:=Ext.drew1
       replace C2:=hJ (C2.out.ext hx2);replace V2:=hJ (V2.out.ext hx2);replace RT2:=hJ (RT2.out.ext hx2);replace E2:=hJ (E2.out.trans hx2);replace RC:=hJ (RC.out.ext hx2);clear hx2
       generalize w5.drew=u1 at *
       refine E_t 0 79 ?_;refine E_t 1 80 ?_;refine E_t 2 81 ?_;refine E_t 3 82 ?_;refine E_t 4 83 ?_;refine E_t 5 84 ?_;refine E_t 6 85 ?_;refine E_t 7 86 ?_;refine E_t 8 87 ?_;refine E_t 9 88 ?_;refine E_t 10 89 ?_;refine E_t 11 90 ?_;refine E_t 12 91 ?_;refine E_t 13 92 ?_;refine E_t 14 93 ?_;refine E_t 15 94 ?_;refine E_r 16 (some 95) fun K hK=>?_
       go_simp;go_at_call 130;refine(qcO Ac Al cc cl sn LG (log.take sn) _ RC.out (C2.out.lies.log.row.take_ents sn) (by omega) (by rw[List.length_take];omega) hc1).mono ?_
       rintro en w16 ⟨rfl,hx2⟩
       rw[HV2.out]
       replace C2:=hJ (C2.out.ext hx2);replace V2:=hJ (V2.out.ext hx2);replace RT2:=hJ (RT2.out.ext hx2);replace E2:=hJ (E2.out.trans hx2);replace RC:=hJ (RC.out.ext hx2);clear hx2
       clear hHeld;refine hK.out _ _ ⟨C2.out.cell 0,C2.out.cell 3,C2.out.cell 4,C2.out.cell 5⟩ (fun hHeld=>?_)
       clear hK K;try simp only[Act.put,aP1,aP2,aP3]
       refine E_t 17 96 ?_;refine E_t 18 97 ?_;refine E_t 19 98 ?_;refine E_s 20 99 ?_;refine E_s 21 100 ?_;refine E_s 22 101 ?_;refine E_s 23 102 ?_;refine E_s 24 103 ?_;refine E_s 25 104 ?_;refine E_s 26 105 ?_;refine E_s 27 106 ?_;refine E_s 28 107 ?_;refine E_s 29 108 ?_;refine E_s 30 109 ?_;refine E_s 31 110 ?_;refine E_s 32 111 ?_;refine E_t 33 112 ?_;refine qaE (by kernel_rfl) (by rfl) ?_
       go_wp2;go_end0;exact NO _ (by rw[HRK.out,if_pos (by rw[HFT.out];simp)]) E2.out
      by_cases hs:(on:Int)≤sent
      rotate_left
      ·have hs':decide (sent<(on:Int))=true:=by simp only[decide_eq_true_eq];omega
       have hs2:decide ((on:Int)≤sent)=false:=by simpa using hs
       have HS:=hJ hs2
       clear hs hs2;refine qac 34 (fun w'=>Cq w' p 0 (Jq self)∧Cq w' p 3 (.slice Al log.length cl)∧Cq w' p 4 (Jq (sn:Int))∧Cq w' p 5 (Jq sent)) (by kernel_rfl) ⟨(C2.out.ext Ext.drew1).cell 0,(C2.out.ext Ext.drew1).cell 3,(C2.out.ext Ext.drew1).cell 4,(C2.out.ext Ext.drew1).cell 5⟩ (fun hHeld=>?_)
       have hx2:Ext w5 w5.drew:=Ext.drew1
       replace C2:=hJ (C2.out.ext hx2);replace V2:=hJ (V2.out.ext hx2);replace RT2:=hJ (RT2.out.ext hx2);replace E2:=hJ (E2.out.trans hx2);replace RC:=hJ (RC.out.ext hx2);clear hx2
       generalize w5.drew=u1 at *
       refine E_t 0 79 ?_;refine E_t 1 80 ?_;refine E_t 2 81 ?_;refine E_t 3 82 ?_;refine E_t 4 83 ?_;refine E_t 5 84 ?_;refine E_t 6 85 ?_;refine E_t 7 86 ?_;refine E_t 8 87 ?_;refine E_t 9 88 ?_;refine E_t 10 89 ?_;refine E_t 11 90 ?_;refine E_t 12 91 ?_;refine E_t 13 92 ?_;refine E_t 14 93 ?_;refine E_t 15 94 ?_;refine E_r 16 (some 95) fun K hK=>?_
       go_simp;go_at_call 130;refine(qcO Ac Al cc cl sn LG (log.take sn) _ RC.out (C2.out.lies.log.row.take_ents sn) (by omega) (by rw[List.length_take];omega) hc1).mono ?_
       rintro en w16 ⟨rfl,hx2⟩
       rw[HV2.out]
       replace C2:=hJ (C2.out.ext hx2);replace V2:=hJ (V2.out.ext hx2);replace RT2:=hJ (RT2.out.ext hx2);replace E2:=hJ (E2.out.trans hx2);replace RC:=hJ (RC.out.ext hx2);clear hx2
       clear hHeld;refine hK.out _ _ ⟨C2.out.cell 0,C2.out.cell 3,C2.out.cell 4,C2.out.cell 5⟩ (fun hHeld=>?_)
       clear hK K;try simp only[Act.put,aP1,aP2,aP3]
       refine E_t 17 96 ?_;refine E_t 18 97 ?_;refine E_t 19 98 ?_;refine E_t 20 99 ?_;refine E_t 21 100 ?_;refine E_t 22 101 ?_;refine E_t 23 102 ?_;refine E_t 24 103 ?_;refine E_t 25 104 ?_;refine E_t 27 106 ?_;refine E_t 28 107 ?_;refine E_t 29 108 ?_;refine E_t 30 109 ?_;refine E_t 31 110 ?_;refine E_r 26 (some 105) fun K hK=>?_
       go_simp;go_at_call 91;refine(qck Ac cc LG self _ RC.out (by omega)).mono ?_
       rintro en w26 ⟨rfl,hx2⟩
       rw[HON.out]
       replace C2:=hJ (C2.out.ext hx2);replace V2:=hJ (V2.out.ext hx2);replace RT2:=hJ (RT2.out.ext hx2);replace E2:=hJ (E2.out.trans hx2);replace RC:=hJ (RC.out.ext hx2);clear hx2
       clear hHeld;refine hK.out _ _ ⟨C2.out.cell 0,C2.out.cell 3,C2.out.cell 4,C2.out.cell 5⟩ (fun hHeld=>?_)
       clear hK K;try simp only[Act.put,aP1,aP2,aP3]
       refine E_t 32 111 ?_;refine E_t 33 112 ?_;refine qaE (by kernel_rfl) (by rfl) ?_
       go_wp2;go_end0;exact NO _ (by rw[HRK.out,if_pos (by rw[HFT.out];rw[HS.out];simp)]) E2.out
      have hs':decide (sent<(on:Int))=false:=by simp only[decide_eq_false_iff_not];omega
      have hs2:decide ((on:Int)≤sent)=true:=by simpa using hs
      have HRL:Hid (qaZ (⟨⟨self,base,(sn:Int),sent,Av,cv,vs,Al,cl,log,Ap,cp,pend,Am,cm,marks,Af,cf,fls⟩,Ak,ck,pk,Ad,cd,dl⟩:CM).cs.s={(⟨⟨self,base,(sn:Int),sent,Av,cv,vs,Al,cl,log,Ap,cp,pend,Am,cm,marks,Af,cf,fls⟩,Ak,ck,pk,Ad,cd,dl⟩:CM).cs.s with base:=T,log:=LG++[qab T xs],fls:=[]}):=hJ (by rw[HRK.out,if_neg];rw[HFT.out,H0.out,hs2];simp)
      clear hs hs2 HRK HFT;refine qac 34 (fun w'=>Cq w' p 0 (Jq self)∧Cq w' p 3 (.slice Al log.length cl)∧Cq w' p 4 (Jq (sn:Int))∧Cq w' p 5 (Jq sent)) (by kernel_rfl) ⟨(C2.out.ext Ext.drew1).cell 0,(C2.out.ext Ext.drew1).cell 3,(C2.out.ext Ext.drew1).cell 4,(C2.out.ext Ext.drew1).cell 5⟩ (fun hHeld=>?_)
      have hx2:Ext w5 w5.drew:=Ext.drew1
      replace C2:=hJ (C2.out.ext hx2);replace V2:=hJ (V2.out.ext hx2);replace RT2:=hJ (RT2.out.ext hx2);replace E2:=hJ (E2.out.trans hx2);replace RC:=hJ (RC.out.ext hx2);clear hx2
      generalize w5.drew=u1 at *
      refine E_t 0 79 ?_;refine E_t 1 80 ?_;refine E_t 2 81 ?_;refine E_t 3 82 ?_;refine E_t 4 83 ?_;refine E_t 5 84 ?_;refine E_t 6 85 ?_;refine E_t 7 86 ?_;refine E_t 8 87 ?_;refine E_t 9 88 ?_;refine E_t 10 89 ?_;refine E_t 11 90 ?_;refine E_t 12 91 ?_;refine E_t 13 92 ?_;refine E_t 14 93 ?_;refine E_t 15 94 ?_;refine E_r 16 (some 95) fun K hK=>?_
      go_simp;go_at_call 130;refine(qcO Ac Al cc cl sn LG (log.take sn) _ RC.out (C2.out.lies.log.row.take_ents sn) (by omega) (by rw[List.length_take];omega) hc1).mono ?_
      rintro en w16 ⟨rfl,hx2⟩
      rw[HV2.out]
      replace C2:=hJ (C2.out.ext hx2);replace V2:=hJ (V2.out.ext hx2);replace RT2:=hJ (RT2.out.ext hx2);replace E2:=hJ (E2.out.trans hx2);replace RC:=hJ (RC.out.ext hx2);clear hx2
      clear hHeld;refine hK.out _ _ ⟨C2.out.cell 0,C2.out.cell 3,C2.out.cell 4,C2.out.cell 5⟩ (fun hHeld=>?_)
      clear hK K;try simp only[Act.put,aP1,aP2,aP3]
      refine E_t 17 96 ?_;refine E_t 18 97 ?_;refine E_t 19 98 ?_;refine E_t 20 99 ?_;refine E_t 21 100 ?_;refine E_t 22 101 ?_;refine E_t 23 102 ?_;refine E_t 24 103 ?_;refine E_t 25 104 ?_;refine E_t 27 106 ?_;refine E_t 28 107 ?_;refine E_t 29 108 ?_;refine E_t 30 109 ?_;refine E_t 31 110 ?_;refine E_r 26 (some 105) fun K hK=>?_
      go_simp;go_at_call 91;refine(qck Ac cc LG self _ RC.out (by omega)).mono ?_
      rintro en w26 ⟨rfl,hx2⟩
      rw[HON.out]
      replace C2:=hJ (C2.out.ext hx2);replace V2:=hJ (V2.out.ext hx2);replace RT2:=hJ (RT2.out.ext hx2);replace E2:=hJ (E2.out.trans hx2);replace RC:=hJ (RC.out.ext hx2);clear hx2
      clear hHeld;refine hK.out _ _ ⟨C2.out.cell 0,C2.out.cell 3,C2.out.cell 4,C2.out.cell 5⟩ (fun hHeld=>?_)
      clear hK K;try simp only[Act.put,aP1,aP2,aP3]
      refine E_t 32 111 ?_;refine E_t 33 112 ?_;refine qaE (by kernel_rfl) (by rfl) ?_
      go_upto_region 16 with fail
      obtain⟨uE,rfl⟩:∃x,x=w26:=⟨_,rfl⟩
      have CE:=C2;have EE:=E2
      have HRT:Hid (r_t<uE.heap.size):=hJ V2.out.lt
      refine qac 23 (fun w'=>Cq w' r_t 0 (Jq T)∧Cq w' r_t 1 (.slice At xs.length ct)) (by kernel_rfl) ⟨(V2.out.ext Ext.drew1).cell 0,(V2.out.ext Ext.drew1).cell 1⟩ (fun hHeld=>?_)
      refine E_t 0 113 ?_;refine E_t 1 114 ?_;refine E_t 2 115 ?_;refine E_t 3 116 ?_;refine E_t 4 117 ?_;refine E_t 5 118 ?_;refine E_t 7 120 ?_;refine E_r 6 (some 119) fun K hK=>?_
      go_simp;go_at_call 108;refine(qdF Ac cc LG _ (qhe (RC.out.ext Ext.drew1)) (by omega)).mono ?_
      rintro en w6 ⟨A1,c1,rfl,h11,h12,ho1,hx6⟩
      have hx2:Ext uE w6:=Ext.drew1.trans hx6
      have XA:=hJ hx2
      replace C2:=hJ (C2.out.ext hx2);replace V2:=hJ (V2.out.ext hx2);replace RT2:=hJ (RT2.out.ext hx2);replace E2:=hJ (E2.out.trans hx2);replace RC:=hJ (RC.out.ext hx2);clear hx2
      have HO1:=hJ ho1
      have HZ1:Hid (uE.heap.size≤w6.heap.size):=hJ XA.out.size
      clear ho1 hx6;clear hHeld;refine hK.out _ _ ⟨V2.out.cell 0,V2.out.cell 1⟩ (fun hHeld=>?_)
      clear hK K;try simp only[Act.put,aP1,aP2,aP3]
      refine E_r 8 (some 121) fun K hK=>?_
      go_simp;go_at_call 87;refine(qcE T At ct xs _ RT2.out (by omega)).mono ?_
      rintro en w8 ⟨rfl,hx2⟩
      replace XA:=hJ (XA.out.trans hx2)
      replace HO1:=hJ (HO1.out.ext hx2)
      replace C2:=hJ (C2.out.ext hx2);replace V2:=hJ (V2.out.ext hx2);replace RT2:=hJ (RT2.out.ext hx2);replace E2:=hJ (E2.out.trans hx2);replace RC:=hJ (RC.out.ext hx2);clear hx2
      clear hHeld;refine hK.out _ _ ⟨V2.out.cell 0,V2.out.cell 1⟩ (fun hHeld=>?_)
      clear hK K;try simp only[Act.put,aP1,aP2,aP3]
      refine E_r 9 (some 122) fun K hK=>?_
      unfold qjG
      go_simp;have hx2:Ext w8 (w8.alloc (.cells #[Jq (qab T xs).v,Jq (qab T xs).o,Jq (qab T xs).q,.string (qax (qab T xs).p)] 66)):=Ext.new _ _
      have HRE:Hid (Row (w8.alloc (.cells #[Jq (qab T xs).v,Jq (qab T xs).o,Jq (qab T xs).q,.string (qax (qab T xs).p)] 66)) (some (Pq w8.heap.size 0)) (qaz.cells [qab T xs])):=hJ (qdl (qab T xs) w8)
      replace XA:=hJ (XA.out.trans hx2)
      replace HO1:=hJ (HO1.out.ext hx2)
      replace C2:=hJ (C2.out.ext hx2);replace V2:=hJ (V2.out.ext hx2);replace RT2:=hJ (RT2.out.ext hx2);replace E2:=hJ (E2.out.trans hx2);replace RC:=hJ (RC.out.ext hx2);clear hx2
      generalize (w8.alloc (.cells #[Jq (qab T xs).v,Jq (qab T xs).o,Jq (qab T xs).q,.string (qax (qab T xs).p)] 66))=u3 at *
      generalize w8.heap.size=r_e at *
      clear hHeld;refine hK.out _ _ ⟨V2.out.cell 0,V2.out.cell 1⟩ (fun hHeld=>?_)
      clear hK K;try simp only[Act.put,aP1,aP2,aP3]
      refine E_r 10 (some 123) fun K hK=>?_
      refine qby qaz rfl (.tmp 119) (.tmp 122) rfl u3 uE.heap.size _ LG (by rfl) _ 1 1 [qab T xs] (by rfl) rfl HRE.out (by decide) HO1.out (fun _ _=>⟨trivial,fun r hr=>by simp[qaz] at hr⟩) (by omega) XA.out.size ?_
      intro v3 w3 ho3 hg3 hs3
      obtain⟨NL,hNL⟩:∃l,l=LG++[qab T xs]:=⟨_,rfl⟩
      have HNL:=hJ hNL
      rw[←hNL] at ho3
      clear hNL;obtain⟨A3,c3,rfl,h31,h32,_⟩:=ho3.slice
      have HO3:=hJ ho3.1
      have XB:Hid (Ext uE w3):=hJ (hg3.below XA.out (by have:=XA.out.size;exact this) (fun k hk=>(HO1.out.1.lt k hk).1))
      have V3:Hid (BIs w3 r_t #[Jq T,.slice At xs.length ct] 46):=hJ (V2.out.same (hg3.block _ V2.out.lt (fun e=>by have h1:uE.heap.size≤r_t:=(HO1.out.1.lt _ e.symm).1;have h2:=HRT.out;omega)))
      clear ho3 hg3 hs3;have C4:Hid (CS w3 B (qai col uE.heap.size 2) p ⟨⟨self,base,(sn:Int),sent,Av,cv,vs,Al,cl,log,Ap,cp,pend,Am,cm,marks,Af,cf,fls⟩,Ak,ck,pk,Ad,cd,dl⟩):=hJ (CE.out.keep (cs:=[]) (Stp.ext CE.out.Bsz XB.out (fun k hk=>qah hk)) (by simp))
      have x2:=C4.out.box.set 2 (Jq T)
      have BX4:=hJ x2
      have BX5:=hJ (x2.set 3 (.slice A3 NL.length c3))
      clear x2;clear hHeld;refine hK.out _ _ ⟨V3.out.cell 0,V3.out.cell 1⟩ (fun hHeld=>?_)
      clear hK K;try simp only[Act.put,aP1,aP2,aP3]
      refine E_t 11 124 ?_;refine E_t 12 125 ?_;refine E_t 13 126 ?_;refine E_r 14 none fun K hK=>?_
      have y2:w3.cell? (Pq p 2)=some (Jq base):=C4.out.cell 2
      have f2:=C4.out.free 2
      go_simp;have V4:=hJ (V3.out.wrote (r:=p) (Nat.ne_of_gt HPR.out) (Wrote.set p 2 w3 (Jq T)))
      clear y2 f2;clear hHeld;refine hK.out _ _ ⟨V4.out.cell 0,V4.out.cell 1⟩ (fun hHeld=>?_)
      clear hK K;try simp only[Act.put,aP1,aP2,aP3]
      refine E_t 15 127 ?_;refine E_t 16 128 ?_;refine E_t 17 129 ?_;refine E_r 18 none fun K hK=>?_
      have y3:(w3.setCell (Pq p 2) (Jq T)).cell? (Pq p 3)=some (.slice Al log.length cl):=BX4.out.cell 3
      have f3:=BX4.out.free 3
      go_simp;have V5:=hJ (V4.out.wrote (r:=p) (Nat.ne_of_gt HPR.out) (Wrote.set p 3 (w3.setCell (Pq p 2) (Jq T)) (.slice A3 NL.length c3)))
      clear y3 f3;clear hHeld;refine hK.out _ _ ⟨V5.out.cell 0,V5.out.cell 1⟩ (fun hHeld=>?_)
      clear hK K;try simp only[Act.put,aP1,aP2,aP3]
      refine E_t 19 130 ?_;refine E_t 20 131 ?_;refine E_t 21 132 ?_;refine E_r 22 none fun K hK=>?_
      have y8:((w3.setCell (Pq p 2) (Jq T)).setCell (Pq p 3) (.slice A3 NL.length c3)).cell? (Pq p 8)=some (.slice Af fls.length cf):=BX5.out.cell 8
      have f8:=BX5.out.free 8
      go_simp;have V6:=hJ (V5.out.wrote (r:=p) (Nat.ne_of_gt HPR.out) (Wrote.set p 8 ((w3.setCell (Pq p 2) (Jq T)).setCell (Pq p 3) (.slice A3 NL.length c3)) Zq))
      clear y8 f8;clear hHeld;refine hK.out _ _ ⟨V6.out.cell 0,V6.out.cell 1⟩ (fun hHeld=>?_)
      clear hK K;try simp only[Act.put,aP1,aP2,aP3]
      refine qaE (by kernel_rfl) (by rfl) ?_
      go_wp2;go_end0;have S4:Stp B [1] (qai col uE.heap.size 2) w3 (qai col uE.heap.size 2) (((w3.setCell (Pq p 2) (Jq T)).setCell (Pq p 3) (.slice A3 NL.length c3)).setCell (Pq p 8) Zq):=Stp.wrote (((Wrote.set p 2 w3 _).trans (Wrote.set p 3 _ _)).trans (Wrote.set p 8 _ _)) HBP.out C4.out.Bsz (by rw[C4.out.pc];simp)
      refine⟨⟨⟨self,T,(sn:Int),sent,Av,cv,vs,A3,c3,NL,Ap,cp,pend,Am,cm,marks,none,0,[]⟩,Ak,ck,pk,Ad,cd,dl⟩,qai col uE.heap.size 2,rfl,?_,?_,?_⟩
      ·refine CS.reinst C4.out S4 (((C4.out.box.set 2 _).set 3 _).set 8 _) (S4.own (HO3.out.base (CE.out.Bsz)) (fun q hq=>qbu (HO3.out.lt q hq).1) (by simp)) (fun q hq=>qbu (HO3.out.lt q hq).1) (by rw[HNL.out];simp;omega) (fun e he=>?_) ⟨h31,h32⟩
       rw[HNL.out] at he
       rcases List.mem_append.1 he with he|he
       ·exact HLGP.out e he
       ·simp only[List.mem_cons,List.not_mem_nil,or_false] at he
        subst he
        have:=qeC T xs
        simp only[qab];omega
      ·rw[HRL.out,HNL.out];rfl
      ·exact(((Stp.ext (cs:=[1]) HBW.out EE.out (fun _ _=>rfl)).trans (Stp.ext CE.out.Bsz XB.out (fun k hk=>qah hk))).trans S4).mono (cs':=[1,2,3,4,5,7]) (by simp)
end Go.Proofs.YtponbabbabnaeaaGreat
