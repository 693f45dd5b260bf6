/- Part 25 of the proof: contracts of functions that the statement reaches. Conditions: as each theorem says. -/
import Derived.Test.YtponbabbabnaeaaGreatQe01
import Derived.Test.YtponbabbabnaeaaGreatQe22
import Derived.Test.YtponbabbabnaeaaGreatQe24
set_option maxRecDepth 100000
namespace Go.Proofs.YtponbabbabnaeaaGreat
open Go.RowKit
theorem qn9 {P : Prop} (h : P := by
 have HM0:Hid ((qbE (⟨Av,cv,vs,some (Pq gm 0),cm,mem,some (Pq gd 0),cd,down,At,ct,told,As,cs,sent,Af,cf,fly⟩:WM).wd mv)=(if d then (⟨Av,cv,vs,some (Pq gm 0),cm,mem,some (Pq gd 0),cd,down,At,ct,told,As,cs,sent,Af,cf,fly⟩:WM).wd else qkr (⟨Av,cv,vs,some (Pq gm 0),cm,mem,some (Pq gd 0),cd,down,At,ct,told,As,cs,sent,Af,cf,fly⟩:WM).wd a,true)):=hJ (by rw[qsF HMA.out (by rw[←HKK.out];omega),HDW.out])
 obtain⟨cd0,fd0⟩:=qfu C.out HDN.out
 cases d with
 | true=>
  go_wp2;have CF:=C;have BF:Hid (Below B wc wc):=hJ (Below.refl _ _)
  have HM:=HM0.out
  go_roundw
  case rel=>obtain⟨k1,m9,col9,rfl,h91,h92,h93⟩:=FIN _ _ _ CF BF HM;exact⟨k+1,m9,col9,by omega,rfl,by go_num,h91,h92,h93⟩
  case measure=>simp[intOf];omega
 | false=>
  have HVB:=hJ (FI.out.val b.st (by simp only[WM.wd];exact List.mem_map_of_mem (List.mem_of_getElem? HBM.out)))
  have HTK:=hJ (FI.out.tick b.st (by simp only[WM.wd];exact List.mem_map_of_mem (List.mem_of_getElem? HBM.out)))
  have HTL:Hid (∀t∈told,t.l.length≤100000):=hJ (fun t ht=>FI.out.told t.l (List.mem_map_of_mem ht))
  obtain⟨k0,k1,k2,k3,k4,k5,k6,k7,k8⟩:wc.cell? (Pq gm (a*9))=some (Jq b.self)∧wc.cell? (Pq gm (a*9+1))=some (.slice b.Av b.vs.length b.cv)∧wc.cell? (Pq gm (a*9+2))=some (Jq b.base)∧wc.cell? (Pq gm (a*9+3))=some (.slice b.Al b.log.length b.cl)∧wc.cell? (Pq gm (a*9+4))=some (Jq b.stable)∧wc.cell? (Pq gm (a*9+5))=some (Jq b.sent)∧wc.cell? (Pq gm (a*9+6))=some (.slice b.Ap b.pend.length b.cp)∧wc.cell? (Pq gm (a*9+7))=some (.slice b.Am b.marks.length b.cm)∧wc.cell? (Pq gm (a*9+8))=some (.slice b.Af b.fls.length b.cf):=⟨qaa C.out HBM.out 0 rfl,qaa C.out HBM.out 1 rfl,qaa C.out HBM.out 2 rfl,qaa C.out HBM.out 3 rfl,qaa C.out HBM.out 4 rfl,qaa C.out HBM.out 5 rfl,qaa C.out HBM.out 6 rfl,qaa C.out HBM.out 7 rfl,qaa C.out HBM.out 8 rfl⟩
  go_wp2_with fail
  go_at_call 14;refine(qla b _ (C.out.reads HBM.out).1 (C.out.reads HBM.out).2 HVB.out).mono ?_
  rintro en w5 ⟨mr,rfl,hcs,hrd,hft,hpk,hdl,hx,hnw,hnd,hpn⟩
  have G:=hJ (qnV hcs hrd hft hpk hdl hnw hnd hpn C.out.z)
  have BL2:=hJ (hx.mono C.out.Bsz:Below B wc w5)
  replace C:=hJ (C.out.ext hx)
  clear hcs hrd hft hpk hdl hx hnw hnd hpn k0 k1 k2 k3 k4 k5 k6 k7 k8 cd0 fd0 z1 z2 z4 z5;have EA:Hid (Ext w5 (w5.alloc (.cells mr.b.cells 28))):=hJ (Ext.new _ _)
  have BS:Hid (BIs (w5.alloc (.cells mr.b.cells 28)) w5.heap.size mr.b.cells 28):=hJ (BIs.new _ _ _)
  replace BL2:=hJ (BL2.out.trans (EA.out.mono C.out.Bsz));replace G:=hJ (G.out.keep (Stp.ext' (B:=B) (cs:=[]) C.out.Bsz EA.out) (by decide));replace C:=hJ (C.out.ext EA.out)
  clear EA;have FINH:=hJ FIN
  clear FIN hrem hrem2 hcva hkr hkr2 hk12 hne0 c0;unfold BM.cells
  go_upto_region 35 with fail
  generalize (w5.alloc (.cells mr.b.cells 28))=w6 at *
  generalize w5.heap.size=rs at *
  refine qac 7 (fun w'=>Cq w' p 1 (.slice (some (Pq gm 0)) mem.length cm)∧Cq w' rs 0 (Jq mr.b.self)∧Cq w' rs 1 (.slice mr.b.Av mr.b.vs.length mr.b.cv)∧Cq w' rs 2 (Jq mr.b.base)∧Cq w' rs 3 (.slice mr.b.Al mr.b.log.length mr.b.cl)∧Cq w' rs 4 (Jq mr.b.stable)∧Cq w' rs 5 (Jq mr.b.sent)∧Cq w' rs 6 (.slice mr.b.Ap mr.b.pend.length mr.b.cp)∧Cq w' rs 7 (.slice mr.b.Am mr.b.marks.length mr.b.cm)∧Cq w' rs 8 (.slice mr.b.Af mr.b.fls.length mr.b.cf)) (by kernel_rfl) ⟨(qaB (C.out.ext Ext.drew1)).2.1,(BS.out.ext Ext.drew1).cell 0,(BS.out.ext Ext.drew1).cell 1,(BS.out.ext Ext.drew1).cell 2,(BS.out.ext Ext.drew1).cell 3,(BS.out.ext Ext.drew1).cell 4,(BS.out.ext Ext.drew1).cell 5,(BS.out.ext Ext.drew1).cell 6,(BS.out.ext Ext.drew1).cell 7,(BS.out.ext Ext.drew1).cell 8⟩ (fun hHeld=>?_)
  have XD:Hid (Ext w6 w6.drew):=hJ Ext.drew1
  replace BL2:=hJ (BL2.out.trans (XD.out.mono C.out.Bsz))
  replace G:=hJ (G.out.keep (Stp.ext' (B:=B) (cs:=[]) C.out.Bsz XD.out) (by decide))
  replace BS:=hJ (BS.out.ext XD.out)
  replace C:=hJ (C.out.ext XD.out)
  clear XD;generalize w6.drew=u8 at *
  refine E_t 0 220 ?_;refine E_t 1 221 ?_;refine E_t 2 222 ?_;refine E_t 3 223 ?_;refine E_t 4 224 ?_;refine E_t 5 225 ?_;refine E_t 6 226 ?_;refine qgo 8 (fun _=>True) (by kernel_rfl) trivial (fun hHeld=>?_)
  refine E_r 7 none fun K hK=>?_
  refine qef qb8 rfl (.tmp 226) (.tmp 225) rfl _ gm (a*9) (by rfl) mr.b (by rfl) (qiO C.out HBM.out) (fun j hj=>qgq C.out hal _) ?_
  clear hHeld;refine hK.out _ _ trivial (fun hHeld=>?_)
  clear hK K;try simp only[Act.put]
  refine qaE (by kernel_rfl) (by rfl) ?_
  go_upto_region 36 with fail
  have FIN:=FINH.out
  obtain⟨ws9,st9⟩:=C.out.put_mem (b:=mr.b) rfl hal G.out.rd
  have e9:qfS u8 gm (a*qb8.k) (qb8.f mr.b)=(qfS u8 gm (a*9) (qb8.f mr.b)):=rfl
  rw[e9] at ws9 st9
  clear e9;have C9:=hJ ws9;have G9:=hJ (G.out.keep st9 (by decide));have BL9:=hJ (BL2.out.trans st9.below)
  clear ws9 st9;generalize (qfS u8 gm (a*9) (qb8.f mr.b))=u9 at *
  have HPL:Hid (mr.pk.length≤100000∧mr.dl.length≤100000):=hJ (by have h1:=HTK.out;have h2:=G9.out.len;omega)
  go_wp2_with (first|(go_at_call 99;refine(qlo ⟨Av,cv,vs,some (Pq gm 0),cm,mem.set a mr.b,some (Pq gd 0),cd,down,At,ct,told,As,cs,sent,Af,cf,fly⟩ B colr p a mr.Ak mr.ck mr.pk mr.Ad mr.cd mr.dl _ C9.out (by simp only[List.length_set];exact hal) (by simp only;omega) G9.out.pk G9.out.dl.1 (by simp only;omega) HPL.out.1 HTL.out HPL.out.2).mono ?_;rintro en w10 ⟨m10,col10,rfl,ws10,hwd,bl10⟩;have CF:=hJ ws10;have HD10:=hJ hwd;have BF:=hJ (BL9.out.trans bl10);clear ws10 hwd bl10))
  have HM:qbE (⟨Av,cv,vs,some (Pq gm 0),cm,mem,some (Pq gd 0),cd,down,At,ct,told,As,cs,sent,Af,cf,fly⟩:WM).wd mv=(m10.wd,true):=HM0.out.trans (Prod.ext (by rw[HD10.out];show qkr _ a=_;unfold qkr;rw[HMW.out,←G9.out.cs];simp only[WM.wd,qiI,List.map_set];rfl) rfl)
  go_roundw
  case rel=>obtain⟨k1,m9,col9,rfl,h91,h92,h93⟩:=FIN _ _ _ CF BF HM;exact⟨k+1,m9,col9,by omega,rfl,by go_num,h91,h92,h93⟩
  case measure=>simp[intOf];omega) : P := h
theorem qcA {P : Prop} (h : P := by
 go_roundw
 case rel=>obtain⟨k1,m9,col9,rfl,h91,h92,h93⟩:=FIN _ _ _ CF BF HM;exact⟨k+1,m9,col9,by omega,rfl,by go_num,h91,h92,h93⟩
 case measure=>simp[intOf];omega) : P := h
theorem qcz{w:World}{b o k:Nat}{l:List Mv}{x:Mv}(h:Row w (some (Pq b o)) (mvE.cells l))(hx:l[k]?=some x)(j:Nat){u:Value}(hu:(mvE.f x)[j]?=some u):w.cell? (Pq b (o+k*4+j))=some u:=by
 have hk:=(List.getElem?_eq_some_iff.1 hx).1
 have hj:j<4:=by have:=(List.getElem?_eq_some_iff.1 hu).1;rwa [mvE.len] at this
 have h9:=mvE.cells_at hx j hj
 rw[show mvE.k=4 from rfl,hu] at h9
 obtain⟨b',o',h1,h2,h3⟩:=h (fun e=>by rw[e] at h9;simp at h9)
 cases h1
 rw[Nat.add_assoc];exact h3 _ _ h9
theorem qpL{m:WM}{q:Nat}(h:q<m.fly.length):qcw m.wd q∈m.wd.fly:=by
 unfold qcw
 rw[List.getElem?_eq_getElem (by simpa[WM.wd] using h)]
 exact List.getElem_mem _
theorem qtw{w:World}{B c:Nat}{col:Nat→Nat}{A:Option Addr}{n:Nat}{l:List SnM}{i:Nat}(h:Arr snE w B col c (.slice A l.length n) l)(hi:i<l.length):∃g t,A=some (Pq g 0)∧l[i]?=some t∧w.cell? (Pq g i)=some (.slice t.A t.l.length t.c):=by
 obtain⟨g,m,hv,_⟩:=h.addr (by omega)
 simp only[Value.slice.injEq,true_and] at hv
 obtain⟨rfl,rfl⟩:=hv
 have ht:=List.getElem?_eq_getElem hi
 exact⟨g,_,rfl,ht,by have:=h.cell ht (j:=0) rfl;simpa[snE] using this⟩
theorem qnq{w:World}{B c:Nat}{col:Nat→Nat}{g n:Nat}{l:List SnM}{i:Nat}{t:SnM}(h:Arr snE w B col c (.slice (some (Pq g 0)) l.length n) l)(ht:l[i]?=some t):w.cell? (Pq g i)=some (.slice t.A t.l.length t.c):=by
 have:=h.cell ht (j:=0) rfl;simpa[snE] using this
theorem qiO{w:World}{B p:Nat}{col:Nat→Nat}{g i:Nat}{b:BM}{Av Ad At As Af:Option Addr}{cv cm cd ct cs cf:Nat}{vs:List VwM}{mem:List BM}{down:List Bool}{told:List TlM}{sent:List SnM}{fly:List FyM}(h:WS w B col p ⟨Av,cv,vs,some (Pq g 0),cm,mem,Ad,cd,down,At,ct,told,As,cs,sent,Af,cf,fly⟩)(hb:mem[i]?=some b) :
  ∀j,j<9→(w.cell? (Pq g (i*9+j))).isSome=true:=fun j hj=>by
 have hj':j<b.cells.size:=hj
 rw[qaa h hb j (Array.getElem?_eq_getElem hj')];rfl
theorem qrz(n:Nat):IntKind.u8.wrap (n:Int)=((UInt8.ofNat n).toNat:Int):=by
 rw[UInt8.toNat_ofNat'];simp[IntKind.wrap,IntKind.signed,IntKind.bits]
theorem qhB{w:Wd}{a:Nat}{p:List UInt8}(h:¬(qeO w a=false∧(qaY (qeM w a) p).2=0)):qdT w a p=w:=by unfold qdT;exact if_neg h
theorem qox{m:WM}{a:Nat}{p:List UInt8}{b2:BM}{t:SnM}{A:Option Addr}{c:Nat}{NT:List (List UInt8)}(h1:qeO m.wd a=false)(h2:(qaY (qeM m.wd a) p).2=0)(h3:b2.st=(qaY (qeM m.wd a) p).1)(ht:m.sent[a]?=some t)(hn:NT=t.l++[p]) :
  qdT m.wd a p=({m with mem:=m.mem.set a b2,sent:=m.sent.set a ⟨A,c,NT⟩}:WM).wd:=by
 unfold qdT
 simp only
 rw[if_pos ⟨h1,h2⟩,←h3]
 simp[WM.wd,qiI,List.map_set,ht,hn]
theorem qlv{w:World}{b o k:Nat}{l:List Mv}{x:Mv}(h:Row w (some (Pq b o)) (mvE.cells l))(hx:l[k]?=some x):w.cell? (Pq b (o+k*4))=some (.int .u8 (x.kind:Int)):=qcz h hx 0 rfl
set_option maxHeartbeats 40000000 in
theorem qss(m0:WM)(B:Nat)(col:Nat→Nat)(p:Nat)(Al:Option Addr)(cl:Nat)(l:List Mv)(w:World)(h:WS w B col p m0)(hr:Row w Al (mvE.cells l))(hold:qtm B Al (mvE.cells l))(hl:l.length≤1000)
  (hbits:∀mv∈l,mv.kind<256∧mv.a<256∧mv.cut<256∧mv.n<65536) (hfine:∀k w1,k≤l.length→qiN m0.wd (l.take k)=(w1,true)→FineW w1) :
  Calls Tryz.prog 31 #[.pointer (some (Pq p 0)),.slice Al l.length cl] w (qjK B p w (.bool true) (qiN m0.wd l).1):=by
 have HRW:=hJ hr;have HO:=hJ hold;have HFI:=hJ hfine;have HBS:=hJ hbits
 have BL0:Hid (Below B w w):=hJ (Below.refl _ _)
 have C0:=hJ h
 clear hr hold hfine hbits h;go_enter Tryz.func31,Tryz.ntmps31
 go_wp2;go_loopw [4,5] (fun s i wr=>∃(k:Nat) (m:WM) (colr:Nat→Nat),k≤l.length∧s=.bool false∧i=Jq k∧Hid (WS wr B colr p m)∧Hid (Below B w wr)∧Hid (qiN m0.wd (l.take k)=(m.wd,true))) (fun _ i _=>l.length - (intOf i).toNat)
 case atStart=>exact⟨0,m0,col,Nat.zero_le _,rfl,rfl,C0,BL0,hJ rfl⟩
 case round=>
  clear C0 BL0;obtain⟨k,m,colr,hk,rfl,rfl,C,BL,HRUN⟩:=hrel
  by_cases hlt:k<l.length
  rotate_left
  ·have hkk:k=l.length:=by omega
   subst hkk
   go_wp2;go_ret
   exact⟨m,colr,rfl,C.out,by rw[show l=l.take l.length from(List.take_length).symm,HRUN.out],BL.out⟩
  have FI:=hJ (HFI.out k m.wd (by omega) HRUN.out)
  obtain⟨Av,cv,vs,Am,cm,mem,Ad,cd,down,At,ct,told,As,cs,sent,Af,cf,fly⟩:=m
  have ROW:=hJ (HRW.out.below HO.out BL.out)
  obtain⟨bl,ol,mv,hAl,hbl,c0,c1,c2,c3,HX⟩:=qtA ROW.out hlt
  have HAL:=hJ hAl;have hbt:=HBS.out mv (List.mem_of_getElem? HX.out)
  have f1:=FI.out.ml;have f2:=FI.out.dl;have f3:=FI.out.tl;have f4:=FI.out.sl;have f5:=FI.out.vl;have f6:=FI.out.fl
  simp only[WM.wd,List.length_map,qaI] at f1 f2 f3 f4 f5 f6
  obtain⟨a,ha⟩:∃x,x=mv.a % mem.length:=⟨_,rfl⟩
  have hal:a<mem.length:=by rw[ha];exact Nat.mod_lt _ (by omega)
  have HA:=hJ ha
  have hrem:Int.tmod (mv.a:Int) (mem.length:Int)=(a:Int):=by rw[ha];rfl
  have hrem2:(mv.a:Int) % (mem.length:Int)=(a:Int):=by rw[ha];rfl
  have hcva:IntKind.i64.wrap (mv.a:Int)=(mv.a:Int):=IntWalk.i64_in _ (by omega)
  have hwa:IntKind.i64.wrap (a:Int)=(a:Int):=IntWalk.i64_in _ (by omega)
  have hne0:¬mem=[]:=by intro e;rw[e] at hal;simp at hal
  have hal':(a:Int)<(mem.length:Int):=by omega
  clear ha;obtain⟨gm,b,hAm,_,_,_,hb,_⟩:=qf3 C.out.mem hal
  simp only at hAm hb
  subst hAm
  have HBM:=hJ hb
  clear hb;obtain⟨gd,d,hAd,hdn,_,_⟩:=qjU C.out.down (i:=a) (by simp only;omega)
  simp only at hAd hdn
  subst hAd
  have HDN:=hJ hdn
  clear hdn;have HMW:Hid (qeM (⟨Av,cv,vs,some (Pq gm 0),cm,mem,some (Pq gd 0),cd,down,At,ct,told,As,cs,sent,Af,cf,fly⟩:WM).wd a=b.st):=hJ (qe7 HBM.out)
  have HDW:Hid (qeO (⟨Av,cv,vs,some (Pq gm 0),cm,mem,some (Pq gd 0),cd,down,At,ct,told,As,cs,sent,Af,cf,fly⟩:WM).wd a=d):=hJ (qk9 HDN.out)
  subst hAl
  go_upto_region 4 with fail
  have T4:(wr.drew).cell? (Pq bl (ol+k*4+1))=some (.int .u8 (mv.a:Int))∧(wr.drew).cell? (Pq p 1)=some (.slice (some (Pq gm 0)) mem.length cm):=⟨c1,(qaB C.out).2.1⟩
  clear c0 c1 c2 c3;refine qac 13 (fun w'=>Cq w' bl (ol+k*4+1) (.int .u8 (mv.a:Int))∧Cq w' p 1 (.slice (some (Pq gm 0)) mem.length cm)) (by kernel_rfl) T4 (fun hHeld=>?_)
  have XD:Hid (Ext wr wr.drew):=hJ Ext.drew1
  replace BL:=hJ (BL.out.trans (XD.out.mono C.out.Bsz))
  replace C:=hJ (C.out.ext XD.out)
  clear XD;generalize wr.drew=u1 at *
  refine E_t 0 20 ?_;refine E_t 1 21 ?_;refine E_t 2 22 ?_;refine E_t 3 23 ?_;refine E_t 4 24 ?_;refine E_t 5 25 ?_;refine E_t 6 26 ?_;refine E_t 7 27 ?_;refine E_t 8 28 ?_;refine E_t 9 29 ?_;refine E_t 10 30 ?_;refine E_t 11 31 ?_;refine E_t 12 6 ?_;refine qaE (by kernel_rfl) (by rfl) ?_
  clear T4;obtain⟨q,hq⟩:∃x,x=if 0<fly.length then mv.n % fly.length else 0:=⟨_,rfl⟩
  have HQ:=hJ hq
  clear hq;obtain⟨z0,z1,z2,z3,z4,z5⟩:=qaB C.out
  clear z0 z1 z2 z3 z4;simp only at z5
  go_upto_if 37 with (fail)
  go_cut [7] (fun s wx=>s=Jq (q:Int)∧Hid (WS wx B colr p ⟨Av,cv,vs,some (Pq gm 0),cm,mem,some (Pq gd 0),cd,down,At,ct,told,As,cs,sent,Af,cf,fly⟩)∧Hid (Below B w wx))
  case first=>
   by_cases h0:0<fly.length
   rotate_left
   ·have hq0:Hid (q=0):=hJ (by rw[HQ.out,if_neg h0])
    go_wp2;go_meet
    exact⟨by rw[hq0.out];rfl,C,BL⟩
   have hqe:q=mv.n % fly.length:=by rw[HQ.out,if_pos h0]
   have hql:q<fly.length:=by rw[hqe];exact Nat.mod_lt _ h0
   have hqr:Int.tmod (mv.n:Int) (fly.length:Int)=(q:Int):=by rw[hqe];rfl
   have hqr2:(mv.n:Int) % (fly.length:Int)=(q:Int):=by rw[hqe];rfl
   have hcvn:IntKind.i64.wrap (mv.n:Int)=(mv.n:Int):=IntWalk.i64_in _ (by omega)
   have hwq:IntKind.i64.wrap (q:Int)=(q:Int):=IntWalk.i64_in _ (by omega)
   have hnf:¬fly=[]:=by intro e;rw[e] at h0;simp at h0
   have h0':(0:Int)<(fly.length:Int):=by omega
   clear hqe;go_upto_region 7 with fail
   have ROW1:=hJ (HRW.out.below HO.out BL.out)
   have T7:(u1.drew).cell? (Pq bl (ol+k*4+3))=some (.int .u16 (mv.n:Int))∧(u1.drew).cell? (Pq p 5)=some (.slice Af fly.length cf):=⟨qcz ROW1.out HX.out 3 rfl,z5⟩
   refine qac 13 (fun w'=>Cq w' bl (ol+k*4+3) (.int .u16 (mv.n:Int))∧Cq w' p 5 (.slice Af fly.length cf)) (by kernel_rfl) T7 (fun hHeld=>?_)
   have XD:Hid (Ext u1 u1.drew):=hJ Ext.drew1
   replace BL:=hJ (BL.out.trans (XD.out.mono C.out.Bsz))
   replace C:=hJ (C.out.ext XD.out)
   clear XD;generalize u1.drew=u2 at *
   refine E_t 0 38 ?_;refine E_t 1 39 ?_;refine E_t 2 40 ?_;refine E_t 3 41 ?_;refine E_t 4 42 ?_;refine E_t 5 43 ?_;refine E_t 6 44 ?_;refine E_t 7 45 ?_;refine E_t 8 46 ?_;refine E_t 9 47 ?_;refine E_t 10 48 ?_;refine E_t 11 49 ?_;refine E_t 12 7 ?_;refine qaE (by kernel_rfl) (by rfl) ?_
   go_wp2;go_meet
   exact⟨rfl,C,BL⟩
  case rest=>
   obtain⟨rfl,C',BL'⟩:=hcut
   clear C BL z5;have C:=C'
   have BL:=BL'
   clear C' BL';have ROW1:=hJ (HRW.out.below HO.out BL.out)
   obtain⟨kk,hkk⟩:∃x,x=mv.kind % 12:=⟨_,rfl⟩
   have HKK:=hJ hkk
   have hk12:kk<12:=by rw[hkk];exact Nat.mod_lt _ (by omega)
   have hkr:(mv.kind:Int) % 12=(kk:Int):=by rw[hkk];rfl
   have hkr2:Int.tmod (mv.kind:Int) 12=(kk:Int):=by rw[hkk];rfl
   clear hkk;have c0:wc.cell? (Pq bl (ol+k*4))=some (.int .u8 (mv.kind:Int)):=qlv ROW1.out HX.out
   have HMA:Hid (mv.a % (⟨Av,cv,vs,some (Pq gm 0),cm,mem,some (Pq gd 0),cd,down,At,ct,told,As,cs,sent,Af,cf,fly⟩:WM).wd.mem.length=a):=hJ (by rw[HA.out];simp only[WM.wd,List.length_map])
   have HMQ:Hid ((if 0<(⟨Av,cv,vs,some (Pq gm 0),cm,mem,some (Pq gd 0),cd,down,At,ct,told,As,cs,sent,Af,cf,fly⟩:WM).wd.fly.length then mv.n % (⟨Av,cv,vs,some (Pq gm 0),cm,mem,some (Pq gd 0),cd,down,At,ct,told,As,cs,sent,Af,cf,fly⟩:WM).wd.fly.length else 0)=q):=hJ (by rw[HQ.out];simp only[WM.wd,List.length_map])
   obtain⟨z0,z1,z2,z3,z4,z5⟩:=qaB C.out
   simp only at z1 z2 z4 z5
   have FIN:∀(wf:World) (mf:WM) (colf:Nat→Nat),Hid (WS wf B colf p mf)→Hid (Below B wc wf)→qbE (⟨Av,cv,vs,some (Pq gm 0),cm,mem,some (Pq gd 0),cd,down,At,ct,told,As,cs,sent,Af,cf,fly⟩:WM).wd mv=(mf.wd,true)→∃(k1:Nat) (m:WM) (colr:Nat→Nat),k1=k+1∧Hid (WS wf B colr p m)∧Hid (Below B w wf)∧Hid (qiN m0.wd (l.take k1)=(m.wd,true)):=fun wf mf colf h1 h2 h3=>⟨k+1,mf,colf,rfl,h1,hJ (BL.out.trans h2.out),hJ (qp4 HRUN.out HX.out h3)⟩
   by_cases k5:kk=5
   ·as_aux_lemma=>
    subst k5
    by_cases h0:0<fly.length
    ·have h0':(0:Int)<(fly.length:Int):=by omega
     have hql:q<fly.length:=by rw[HQ.out,if_pos h0];exact Nat.mod_lt _ h0
     have HM0:Hid (qbE (⟨Av,cv,vs,some (Pq gm 0),cm,mem,some (Pq gd 0),cd,down,At,ct,told,As,cs,sent,Af,cf,fly⟩:WM).wd mv=(qhA (⟨Av,cv,vs,some (Pq gm 0),cm,mem,some (Pq gd 0),cd,down,At,ct,told,As,cs,sent,Af,cf,fly⟩:WM).wd q,true)):=hJ (by rw[qqE HMQ.out HKK.out.symm,if_pos (by simpa[WM.wd] using h0)])
     clear h0;go_wp2_with (first|(go_at_call 101;refine(qkN ⟨Av,cv,vs,some (Pq gm 0),cm,mem,some (Pq gd 0),cd,down,At,ct,told,As,cs,sent,Af,cf,fly⟩ B colr p q _ C.out hql (by simp only;omega)).mono ?_;rintro en w5 ⟨m5,col5,rfl,ws5,hwd5,bl5⟩;have CF:=hJ ws5;have BF:=hJ bl5;have HM:qbE (⟨Av,cv,vs,some (Pq gm 0),cm,mem,some (Pq gd 0),cd,down,At,ct,told,As,cs,sent,Af,cf,fly⟩:WM).wd mv=(m5.wd,true):=(by rw[HM0.out,hwd5]);clear ws5 bl5 hwd5))
     exact qcA
    ·have hz:¬(0:Int)<(fly.length:Int):=by omega
     have HM0:Hid (qbE (⟨Av,cv,vs,some (Pq gm 0),cm,mem,some (Pq gd 0),cd,down,At,ct,told,As,cs,sent,Af,cf,fly⟩:WM).wd mv=((⟨Av,cv,vs,some (Pq gm 0),cm,mem,some (Pq gd 0),cd,down,At,ct,told,As,cs,sent,Af,cf,fly⟩:WM).wd,true)):=hJ (by rw[qqE HMQ.out HKK.out.symm,if_neg (by simpa[WM.wd] using h0)])
     clear h0;go_wp2;have CF:=C;have BF:Hid (Below B wc wc):=hJ (Below.refl _ _)
     have HM:=HM0.out
     exact qcA
   by_cases k6:kk=6
   ·as_aux_lemma=>
    subst k6
    have HM0:Hid ((qbE (⟨Av,cv,vs,some (Pq gm 0),cm,mem,some (Pq gd 0),cd,down,At,ct,told,As,cs,sent,Af,cf,fly⟩:WM).wd mv)=(qbT (⟨Av,cv,vs,some (Pq gm 0),cm,mem,some (Pq gd 0),cd,down,At,ct,told,As,cs,sent,Af,cf,fly⟩:WM).wd mv)):=hJ (by rw[qsA HKK.out.symm])
    have HDC:=hJ (FI.out.decide mv)
    have c1:=qcz ROW1.out HX.out 1 rfl;have c2:=qcz ROW1.out HX.out 2 rfl;have c3:=qcz ROW1.out HX.out 3 rfl
    have HVX:Hid (∀u∈vs,u.xs.length≤16):=hJ (fun u hu=>FI.out.vx u.v (List.mem_map_of_mem hu))
    go_wp2_with (first|(go_at_call 102;refine(ql3 ⟨Av,cv,vs,some (Pq gm 0),cm,mem,some (Pq gd 0),cd,down,At,ct,told,As,cs,sent,Af,cf,fly⟩ B colr p mv _ C.out f5.1 (by simp only;omega) (by simp only;omega) (by simp only;omega) (by simp only;omega) (by simp only;omega) HVX.out hbt.2.2.1 hbt.2.2.2 HDC.out).mono ?_;rintro en w5 ⟨m5,col5,rfl,ws5,hwd5,bl5⟩;have CF:=hJ ws5;have BF:=hJ bl5;have HM:qbE (⟨Av,cv,vs,some (Pq gm 0),cm,mem,some (Pq gd 0),cd,down,At,ct,told,As,cs,sent,Af,cf,fly⟩:WM).wd mv=(m5.wd,true):=(by rw[HM0.out,hwd5,←HDC.out]);clear ws5 bl5 hwd5))
    exact qcA
   by_cases k7:kk=7
   ·as_aux_lemma=>
    subst k7
    have HM0:Hid ((qbE (⟨Av,cv,vs,some (Pq gm 0),cm,mem,some (Pq gd 0),cd,down,At,ct,told,As,cs,sent,Af,cf,fly⟩:WM).wd mv)=if d then ((⟨Av,cv,vs,some (Pq gm 0),cm,mem,some (Pq gd 0),cd,down,At,ct,told,As,cs,sent,Af,cf,fly⟩:WM).wd,true) else qdp (⟨Av,cv,vs,some (Pq gm 0),cm,mem,some (Pq gd 0),cd,down,At,ct,told,As,cs,sent,Af,cf,fly⟩:WM).wd a):=hJ (by rw[qsO HMA.out HKK.out.symm,HDW.out])
    obtain⟨cd0,fd0⟩:=qfu C.out HDN.out
    cases d with
    | true=>
     go_wp2;have CF:=C;have BF:Hid (Below B wc wc):=hJ (Below.refl _ _)
     have HM:=HM0.out
     exact qcA
    | false=>
     have HLE:=hJ (FI.out.learn a (by simpa[WM.wd] using hal))
     have HB0:=hJ (FI.out.first b.st (by simp only[WM.wd];exact List.mem_map_of_mem (List.mem_of_getElem? HBM.out)))
     have HVX:Hid (∀u∈vs,u.xs.length≤1000000):=hJ (fun u hu=>by have:=FI.out.vx u.v (List.mem_map_of_mem hu);show u.v.2.length≤_;omega)
     go_wp2_with (first|(go_at_call 100;refine(qna ⟨Av,cv,vs,some (Pq gm 0),cm,mem,some (Pq gd 0),cd,down,At,ct,told,As,cs,sent,Af,cf,fly⟩ B colr p a _ _ C.out hal f5.1 rfl (by rw[HMW.out];exact HB0.out) (by simp only;omega) HVX.out HLE.out).mono ?_;rintro en w5 ⟨m5,col5,rfl,ws5,hwd5,bl5⟩;have CF:=hJ ws5;have BF:=hJ bl5;have HM:qbE (⟨Av,cv,vs,some (Pq gm 0),cm,mem,some (Pq gd 0),cd,down,At,ct,told,As,cs,sent,Af,cf,fly⟩:WM).wd mv=(m5.wd,true):=HM0.out.trans ((if_neg (by simp)).trans (Prod.ext hwd5.symm HLE.out));clear ws5 bl5 hwd5))
     exact qcA
   by_cases k8:kk=8
   ·as_aux_lemma=>
    subst k8
    have HM0:Hid ((qbE (⟨Av,cv,vs,some (Pq gm 0),cm,mem,some (Pq gd 0),cd,down,At,ct,told,As,cs,sent,Af,cf,fly⟩:WM).wd mv)=({(⟨Av,cv,vs,some (Pq gm 0),cm,mem,some (Pq gd 0),cd,down,At,ct,told,As,cs,sent,Af,cf,fly⟩:WM).wd with down:=down.set a (decide (mv.cut<100)||d)},true)):=hJ (by rw[qsU HMA.out HKK.out.symm,HDW.out];rfl)
    obtain⟨cd0,fd0⟩:=qfu C.out HDN.out
    have had:a<down.length:=by omega
    have c2:=qcz ROW1.out HX.out 2 rfl
    go_upto_region 30 with fail
    have T30:(wc.drew).cell? (Pq p 2)=some (.slice (some (Pq gd 0)) down.length cd)∧(wc.drew).cell? (Pq gd a)=some (.bool d)∧(wc.drew).cell? (Pq bl (ol+k*4+2))=some (.int .u8 (mv.cut:Int)):=⟨z2,cd0,c2⟩
    by_cases h100:mv.cut<100
    ·have h100':(mv.cut:Int)<100:=by omega
     refine qac 20 (fun w'=>Cq w' p 2 (.slice (some (Pq gd 0)) down.length cd)∧Cq w' gd a (.bool d)∧Cq w' bl (ol+k*4+2) (.int .u8 (mv.cut:Int))) (by kernel_rfl) T30 (fun hHeld=>?_)
     have XD:Hid (Ext wc wc.drew):=hJ Ext.drew1
     have BL3:=hJ (XD.out.mono C.out.Bsz:Below B wc wc.drew)
     have C3:=hJ (C.out.ext XD.out)
     clear XD;generalize wc.drew=u3 at *
     refine E_t 0 176 ?_;refine E_t 1 177 ?_;refine E_t 2 178 ?_;refine E_t 3 179 ?_;refine E_t 4 180 ?_;refine E_t 5 181 ?_;refine E_t 6 182 ?_;refine E_t 7 183 ?_;refine E_t 8 184 ?_;refine E_t 9 185 ?_;refine E_t 10 186 ?_;refine E_t 11 187 ?_;refine E_s 12 188 ?_;refine E_s 13 189 ?_;refine E_s 14 190 ?_;refine E_s 15 191 ?_;refine E_s 16 192 ?_;refine E_s 17 193 ?_;refine E_s 18 194 ?_;refine E_t 19 195 ?_;refine qbc (by rfl) (by kernel_rfl) ?_
     obtain⟨cd3,fd3⟩:=qfu C3.out HDN.out
     obtain⟨ws4,st4⟩:=C3.out.put_down (b:=true) rfl had ⟨trivial,fun r hr=>by simp[qcX] at hr⟩
     have e4:qfS u3 gd (a*qcX.k) (qcX.f true)=u3.setCell (Pq gd a) (.bool true):=by show u3.setCell (Pq gd (a*1)) _=_;rw[Nat.mul_one]
     rw[e4] at ws4 st4
     have CF:=hJ ws4;have BF:=hJ (BL3.out.trans st4.below)
     clear ws4 st4 e4;go_wp2;have HM:qbE (⟨Av,cv,vs,some (Pq gm 0),cm,mem,some (Pq gd 0),cd,down,At,ct,told,As,cs,sent,Af,cf,fly⟩:WM).wd mv=(_,true):=HM0.out.trans (by rw[decide_eq_true h100,Bool.true_or])
     exact qcA
    have h100':¬(mv.cut:Int)<100:=by omega
    refine qac 20 (fun w'=>Cq w' p 2 (.slice (some (Pq gd 0)) down.length cd)∧Cq w' gd a (.bool d)∧Cq w' bl (ol+k*4+2) (.int .u8 (mv.cut:Int))) (by kernel_rfl) T30 (fun hHeld=>?_)
    have XD:Hid (Ext wc wc.drew):=hJ Ext.drew1
    have BL3:=hJ (XD.out.mono C.out.Bsz:Below B wc wc.drew)
    have C3:=hJ (C.out.ext XD.out)
    clear XD;generalize wc.drew=u3 at *
    refine E_t 0 176 ?_;refine E_t 1 177 ?_;refine E_t 2 178 ?_;refine E_t 3 179 ?_;refine E_t 4 180 ?_;refine E_t 5 181 ?_;refine E_t 6 182 ?_;refine E_t 7 183 ?_;refine E_t 8 184 ?_;refine E_t 9 185 ?_;refine E_t 10 186 ?_;refine E_t 11 187 ?_;refine E_t 12 188 ?_;refine E_t 13 189 ?_;refine E_t 14 190 ?_;refine E_t 15 191 ?_;refine E_t 16 192 ?_;refine E_t 17 193 ?_;refine E_t 18 194 ?_;refine E_t 19 195 ?_;refine qbc (by rfl) (by kernel_rfl) ?_
    obtain⟨cd3,fd3⟩:=qfu C3.out HDN.out
    obtain⟨ws4,st4⟩:=C3.out.put_down (b:=d) rfl had ⟨trivial,fun r hr=>by simp[qcX] at hr⟩
    have e4:qfS u3 gd (a*qcX.k) (qcX.f d)=u3.setCell (Pq gd a) (.bool d):=by show u3.setCell (Pq gd (a*1)) _=_;rw[Nat.mul_one]
    rw[e4] at ws4 st4
    have CF:=hJ ws4;have BF:=hJ (BL3.out.trans st4.below)
    clear ws4 st4 e4;go_wp2;have HM:qbE (⟨Av,cv,vs,some (Pq gm 0),cm,mem,some (Pq gd 0),cd,down,At,ct,told,As,cs,sent,Af,cf,fly⟩:WM).wd mv=(_,true):=HM0.out.trans (by rw[decide_eq_false h100,Bool.false_or])
    exact qcA
   by_cases kd:kk=2∨kk=3∨kk=4∨10≤kk
   ·as_aux_lemma=>
    have HM0:Hid ((qbE (⟨Av,cv,vs,some (Pq gm 0),cm,mem,some (Pq gd 0),cd,down,At,ct,told,As,cs,sent,Af,cf,fly⟩:WM).wd mv)=if 0<(⟨Av,cv,vs,some (Pq gm 0),cm,mem,some (Pq gd 0),cd,down,At,ct,told,As,cs,sent,Af,cf,fly⟩:WM).wd.fly.length then (if kk≠4 then qhA (qc6 (⟨Av,cv,vs,some (Pq gm 0),cm,mem,some (Pq gd 0),cd,down,At,ct,told,As,cs,sent,Af,cf,fly⟩:WM).wd (qcw (⟨Av,cv,vs,some (Pq gm 0),cm,mem,some (Pq gd 0),cd,down,At,ct,told,As,cs,sent,Af,cf,fly⟩:WM).wd q)).1 q else (qc6 (⟨Av,cv,vs,some (Pq gm 0),cm,mem,some (Pq gd 0),cd,down,At,ct,told,As,cs,sent,Af,cf,fly⟩:WM).wd (qcw (⟨Av,cv,vs,some (Pq gm 0),cm,mem,some (Pq gd 0),cd,down,At,ct,told,As,cs,sent,Af,cf,fly⟩:WM).wd q)).1,(qc6 (⟨Av,cv,vs,some (Pq gm 0),cm,mem,some (Pq gd 0),cd,down,At,ct,told,As,cs,sent,Af,cf,fly⟩:WM).wd (qcw (⟨Av,cv,vs,some (Pq gm 0),cm,mem,some (Pq gd 0),cd,down,At,ct,told,As,cs,sent,Af,cf,fly⟩:WM).wd q)).2) else ((⟨Av,cv,vs,some (Pq gm 0),cm,mem,some (Pq gd 0),cd,down,At,ct,told,As,cs,sent,Af,cf,fly⟩:WM).wd,true)):=hJ (by have h9:=qsI HMQ.out (by rw[←HKK.out];exact kd);rw[←HKK.out] at h9;exact h9)
    have t0:((kk:Int) == 0)=false:=by simp;omega
    have t5:((kk:Int) == 5)=false:=by simp;omega
    have t6:((kk:Int) == 6)=false:=by simp;omega
    have t7:((kk:Int) == 7)=false:=by simp;omega
    have t8:((kk:Int) == 8)=false:=by simp;omega
    have t1:((kk:Int) == 1)=false:=by simp;omega
    have t9:((kk:Int) == 9)=false:=by simp;omega
    clear kd k5 k6 k7 k8;by_cases h0:0<fly.length
    rotate_left
    ·have hz:¬(0:Int)<(fly.length:Int):=by omega
     replace HM0:=hJ (HM0.out.trans (if_neg (by simpa[WM.wd] using h0)))
     clear h0;go_wp2;have CF:=C;have BF:Hid (Below B wc wc):=hJ (Below.refl _ _)
     have HM:=HM0.out
     exact qcA
    have h0':(0:Int)<(fly.length:Int):=by omega
    have hql:q<fly.length:=by rw[HQ.out,if_pos h0];exact Nat.mod_lt _ h0
    replace HM0:=hJ (HM0.out.trans (if_pos (by simpa[WM.wd] using h0)))
    have hfin:qcw (⟨Av,cv,vs,some (Pq gm 0),cm,mem,some (Pq gd 0),cd,down,At,ct,told,As,cs,sent,Af,cf,fly⟩:WM).wd q∈(⟨Av,cv,vs,some (Pq gm 0),cm,mem,some (Pq gd 0),cd,down,At,ct,told,As,cs,sent,Af,cf,fly⟩:WM).wd.fly:=by unfold qcw;rw[List.getElem?_eq_getElem (by simpa[WM.wd] using hql)];exact List.getElem_mem _
    have HHA:=hJ (FI.out.hand _ hfin)
    have HRC:=hJ (FI.out.recv _ hfin _ (qr6 FI.out.ml.1 (qcw (⟨Av,cv,vs,some (Pq gm 0),cm,mem,some (Pq gd 0),cd,down,At,ct,told,As,cs,sent,Af,cf,fly⟩:WM).wd q).2.1))
    have HTL:Hid (∀t∈told,t.l.length≤100000):=hJ (fun t ht=>FI.out.told t.l (List.mem_map_of_mem ht))
    have HFB:Hid (∀f∈fly,f.bs.length≤1000000):=hJ (fun f hf=>FI.out.fb f.v (List.mem_map_of_mem hf))
    clear hfin h0;go_upto_region 12 with (first|(go_at_call 103;refine(qj8 ⟨Av,cv,vs,some (Pq gm 0),cm,mem,some (Pq gd 0),cd,down,At,ct,told,As,cs,sent,Af,cf,fly⟩ B colr p q _ C.out hql (by simp only;omega) (by simp only;omega) (by simp only;omega) (by simp only;omega) HTL.out HFB.out HHA.out HRC.out).mono ?_;rintro en w5 ⟨m5,col5,rfl,ws5,hwd5,bl5⟩;have C5:=hJ ws5;have BL5:=hJ bl5;have HW5:=hJ hwd5;clear ws5 bl5 hwd5))
    have cz:w5.cell? (Pq bl (ol+k*4))=some (.int .u8 (mv.kind:Int)):=qlv (ROW1.out.below HO.out BL5.out) HX.out
    by_cases k4:kk=4
    ·have t4:((kk:Int) != 4)=false:=by simp;omega
     have CF:=C5;have BF:=BL5
     have HM:qbE (⟨Av,cv,vs,some (Pq gm 0),cm,mem,some (Pq gd 0),cd,down,At,ct,told,As,cs,sent,Af,cf,fly⟩:WM).wd mv=(m5.wd,true):=HM0.out.trans (Prod.ext ((if_neg (by simpa using k4)).trans HW5.out.symm) HHA.out)
     clear k4;go_wp2;go_roundw
     case rel=>obtain⟨k1,m9,col9,rfl,h91,h92,h93⟩:=FIN _ _ _ CF BF HM;exact⟨k+1,m9,col9,by omega,rfl,by go_num,h91,h92,h93⟩
     case measure=>simp[intOf];omega
    have t4:((kk:Int) != 4)=true:=by simp;omega
    have HFL5:Hid (m5.fly.length=fly.length):=hJ (by have h1:=congrArg List.length (congrArg Wd.fly HW5.out);have h2:=FI.out.handfly _ (qpL hql);rw[h2] at h1;simpa[WM.wd] using h1)
    replace HM0:Hid (qbE (⟨Av,cv,vs,some (Pq gm 0),cm,mem,some (Pq gd 0),cd,down,At,ct,told,As,cs,sent,Af,cf,fly⟩:WM).wd mv=(qhA (qc6 (⟨Av,cv,vs,some (Pq gm 0),cm,mem,some (Pq gd 0),cd,down,At,ct,told,As,cs,sent,Af,cf,fly⟩:WM).wd (qcw (⟨Av,cv,vs,some (Pq gm 0),cm,mem,some (Pq gd 0),cd,down,At,ct,told,As,cs,sent,Af,cf,fly⟩:WM).wd q)).1 q,true)):=hJ (HM0.out.trans (Prod.ext (if_pos k4) HHA.out))
    have hql5:q<m5.fly.length:=by rw[HFL5.out];exact hql
    have hfl5:m5.fly.length≤1000000:=by rw[HFL5.out];omega
    rw[←HW5.out] at HM0
    clear k4;go_wp2_with (first|(go_at_call 101;refine(qkN m5 B col5 p q _ C5.out hql5 hfl5).mono ?_;rintro en w6 ⟨m6,col6,rfl,ws6,hwd6,bl6⟩;have CF:=hJ ws6;have BF:=hJ (BL5.out.trans bl6);have HM:qbE (⟨Av,cv,vs,some (Pq gm 0),cm,mem,some (Pq gd 0),cd,down,At,ct,told,As,cs,sent,Af,cf,fly⟩:WM).wd mv=(m6.wd,true):=(by rw[HM0.out,hwd6]);clear ws6 bl6 hwd6))
    exact qcA
   by_cases k1:kk=1
   ·as_aux_lemma=>
    subst k1
    exact qn9
   by_cases k9:kk=9
   ·as_aux_lemma=>
    subst k9
    exact qn9
   have k0:kk=0:=by omega
   clear k5 k6 k7 k8 kd k1 k9
   ·as_aux_lemma=>
    subst k0
    have had:a<down.length:=by omega
    obtain⟨gs,t,hAs,ht,_⟩:=qtw C.out.sent (i:=a) (by simp only;omega)
    simp only at hAs ht
    subst hAs
    have HSN:=hJ ht
    have hsl:=FI.out.sent t.l (List.mem_map_of_mem (List.mem_of_getElem? ht))
    clear ht;obtain⟨x,hx⟩:∃x:UInt8,x=UInt8.ofNat mv.cut:=⟨_,rfl⟩
    obtain⟨y,hy⟩:∃y:UInt8,y=UInt8.ofNat mv.n:=⟨_,rfl⟩
    have HM0:Hid (qbE (⟨Av,cv,vs,some (Pq gm 0),cm,mem,some (Pq gd 0),cd,down,At,ct,told,some (Pq gs 0),cs,sent,Af,cf,fly⟩:WM).wd mv=(qdT (⟨Av,cv,vs,some (Pq gm 0),cm,mem,some (Pq gd 0),cd,down,At,ct,told,some (Pq gs 0),cs,sent,Af,cf,fly⟩:WM).wd a [x,y],true)):=hJ (by rw[qsW HMA.out HKK.out.symm];unfold qtn;rw[hx,hy])
    have HCX:Hid ((mv.cut:Int)=(x.toNat:Int)):=hJ (by rw[hx];exact qtp hbt.2.2.1)
    have hwy:IntKind.u8.wrap (mv.n:Int)=(y.toNat:Int):=by rw[hy];exact qrz _
    clear hx hy;have c2:=qcz ROW1.out HX.out 2 rfl;have c3:=qcz ROW1.out HX.out 3 rfl
    go_upto_region 15 with fail
    have FINH:=hJ FIN
    clear FIN BL hrem hrem2 hcva hkr hkr2 hk12 hne0 c0;have BL:Hid (Below B wc wc):=hJ (Below.refl _ _)
    clear z1 z2 z4 z5;refine qac 14 (fun w'=>Cq w' bl (ol+k*4+2) (.int .u8 (mv.cut:Int))∧Cq w' bl (ol+k*4+3) (.int .u16 (mv.n:Int))) (by kernel_rfl) ⟨c2,c3⟩ (fun hHeld=>?_)
    have XD:Hid (Ext wc wc.drew):=hJ Ext.drew1
    have ST:=hJ (Stp.ext' (B:=B) (cs:=[]) (col:=colr) C.out.Bsz XD.out)
    replace BL:=hJ (BL.out.trans ST.out.below)
    replace C:=hJ (C.out.keepB ST.out (by decide) (fun k hk=>C.out.z k (Nat.le_trans (XD.out).size hk)))
    clear ST;clear XD;generalize wc.drew=u7 at *
    refine E_t 0 78 ?_;refine E_t 1 79 ?_;refine E_t 2 80 ?_;refine E_t 3 81 ?_;refine E_t 4 82 ?_;refine E_t 5 83 ?_;refine E_t 6 84 ?_;refine E_t 7 85 ?_;refine E_t 8 86 ?_;refine E_t 9 87 ?_;refine E_t 10 88 ?_;refine E_r 11 (some 89) fun K hK=>?_
    go_simp;have ST:Hid (Stp B [] colr u7 (qdg colr u7.heap.size 8) (u7.alloc (.cells #[.int .u8 (mv.cut:Int),.int .u8 (y.toNat:Int)] 5))):=hJ (Stp.newBox C.out.Bsz)
    have B_y:Hid (BIs (u7.alloc (.cells #[.int .u8 (mv.cut:Int),.int .u8 (y.toNat:Int)] 5)) u7.heap.size #[.int .u8 (mv.cut:Int),.int .u8 (y.toNat:Int)] 5):=hJ (BIs.new _ _ _)
    have K_y:Hid ((qdg colr u7.heap.size 8) u7.heap.size=8):=hJ qch
    have HBr:Hid (B≤u7.heap.size):=hJ C.out.Bsz
    replace BL:=hJ (BL.out.trans ST.out.below)
    replace C:=hJ (C.out.keepB ST.out (by decide) (qej C.out.z))
    clear ST;generalize (qdg colr u7.heap.size 8)=coly at *
    generalize (u7.alloc (.cells #[.int .u8 (mv.cut:Int),.int .u8 (y.toNat:Int)] 5))=uy at *
    generalize u7.heap.size=r_y at *
    have Q_y:=HBr
    clear HBr;clear hHeld;refine hK.out _ _ ⟨qcz (ROW1.out.below HO.out BL.out) HX.out 2 rfl,qcz (ROW1.out.below HO.out BL.out) HX.out 3 rfl⟩ (fun hHeld=>?_)
    clear hK K;try simp only[Act.put,aP1,aP2,aP3]
    refine qpO (fun w'=>(Cq w' bl (ol+k*4+2) (.int .u8 (mv.cut:Int))∧Cq w' bl (ol+k*4+3) (.int .u16 (mv.n:Int)))∧Row w' (some (Pq r_y 0)) (qad [x,y])) (fun _ h=>h.1) ⟨⟨qcz (ROW1.out.below HO.out BL.out) HX.out 2 rfl,qcz (ROW1.out.below HO.out BL.out) HX.out 3 rfl⟩,qnP B_y.out HCX.out rfl⟩ (fun hHeld=>?_)
    refine qjz 12 (oi:=⟨some 90,_,_,_,_,_⟩) (v:=?_) rfl (by kernel_rfl) (fun _ _ _ h=>h) (Or.inl ⟨by rfl,?_⟩) (by assumption) ?_
    rotate_left
    ·(intro w9 hSw;(try dsimp only at hSw);have hq:=qdJ 2 2 hSw.2 rfl;go_simp<;>with_reducible rfl)
    try simp only[Act.put,aP1,aP2,aP3]
    refine E_t 13 8 ?_;refine qaE (by kernel_rfl) (by rfl) ?_
    clear c2 c3;clear B_y K_y Q_y;obtain⟨k0,k1,k2,k3,k4,k5,k6,k7,k8⟩:uy.cell? (Pq gm (a*9))=some (Jq b.self)∧uy.cell? (Pq gm (a*9+1))=some (.slice b.Av b.vs.length b.cv)∧uy.cell? (Pq gm (a*9+2))=some (Jq b.base)∧uy.cell? (Pq gm (a*9+3))=some (.slice b.Al b.log.length b.cl)∧uy.cell? (Pq gm (a*9+4))=some (Jq b.stable)∧uy.cell? (Pq gm (a*9+5))=some (Jq b.sent)∧uy.cell? (Pq gm (a*9+6))=some (.slice b.Ap b.pend.length b.cp)∧uy.cell? (Pq gm (a*9+7))=some (.slice b.Am b.marks.length b.cm)∧uy.cell? (Pq gm (a*9+8))=some (.slice b.Af b.fls.length b.cf):=⟨qaa C.out HBM.out 0 rfl,qaa C.out HBM.out 1 rfl,qaa C.out HBM.out 2 rfl,qaa C.out HBM.out 3 rfl,qaa C.out HBM.out 4 rfl,qaa C.out HBM.out 5 rfl,qaa C.out HBM.out 6 rfl,qaa C.out HBM.out 7 rfl,qaa C.out HBM.out 8 rfl⟩
    have z1:=(qaB C.out).2.1
    simp only at z1
    go_wp2_with fail
    go_at_call 12;refine(qfD b [x,y] _ (C.out.reads HBM.out).1 (C.out.reads HBM.out).2 (by simp)).mono ?_
    rintro en w5 ⟨b2,rfl,hst,hrd,hft,hx,hnw⟩
    have HST:=hJ hst;have RD:Hid (RdC w5 coly b2):=hJ (qgA hrd hft hnw C.out.z)
    clear hst hrd hft hnw z1 k0 k1 k2 k3 k4 k5 k6 k7 k8;have ST:=hJ (Stp.ext' (B:=B) (cs:=[]) (col:=coly) C.out.Bsz hx)
    replace BL:=hJ (BL.out.trans ST.out.below)
    replace C:=hJ (C.out.keepB ST.out (by decide) (fun k hk=>C.out.z k (Nat.le_trans (hx).size hk)))
    clear ST;clear hx;obtain⟨e,hE⟩:∃e,(qaY b.st [x,y]).2=e:=⟨_,rfl⟩
    rw[hE]
    have HE:=hJ hE
    clear hE;unfold BM.cells
    go_upto_region 17 with fail
    have ST:Hid (Stp B [] coly w5 (qdg coly w5.heap.size 9) (w5.alloc (.cells b2.cells 28))):=hJ (Stp.newBox C.out.Bsz)
    have B_s:Hid (BIs (w5.alloc (.cells b2.cells 28)) w5.heap.size b2.cells 28):=hJ (BIs.new _ _ _)
    have K_s:Hid ((qdg coly w5.heap.size 9) w5.heap.size=9):=hJ qch
    have HBr:Hid (B≤w5.heap.size):=hJ C.out.Bsz
    replace BL:=hJ (BL.out.trans ST.out.below)
    replace C:=hJ (C.out.keepB ST.out (by decide) (qej C.out.z))
    replace RD:=hJ (RD.out.keep ST.out (by decide))
    clear ST;generalize (qdg coly w5.heap.size 9)=cols at *
    generalize (w5.alloc (.cells b2.cells 28))=w6 at *
    generalize w5.heap.size=rs at *
    have Q_s:=HBr
    clear HBr;obtain⟨cd0,fd0⟩:=qfu C.out HDN.out
    have z2:=(qaB C.out).2.2.1
    simp only at z2
    cases d with
    | true=>
     go_wp2;have FIN:=FINH.out
     have CF:=C;have BF:=BL
     have HM:=HM0.out.trans (congrArg (fun z=>(z,true)) (qhB (by rw[HDW.out];simp)))
     exact qcA
    | false=>
     by_cases h0:e=0
     rotate_left
     ·have h0':(e == 0)=false:=by simpa using h0
      go_wp2;have FIN:=FINH.out
      have CF:=C;have BF:=BL
      have HM:=HM0.out.trans (congrArg (fun z=>(z,true)) (qhB (by rw[HMW.out,HE.out];exact fun hh=>h0 hh.2)))
      exact qcA
     subst h0
     have BL2:=BL;have BS:=B_s
     clear BL B_s K_s Q_s;go_upto_region 18 with fail
     clear cd0 fd0 z2;refine qac 7 (fun w'=>Cq w' p 1 (.slice (some (Pq gm 0)) mem.length cm)∧Cq w' rs 0 (Jq b2.self)∧Cq w' rs 1 (.slice b2.Av b2.vs.length b2.cv)∧Cq w' rs 2 (Jq b2.base)∧Cq w' rs 3 (.slice b2.Al b2.log.length b2.cl)∧Cq w' rs 4 (Jq b2.stable)∧Cq w' rs 5 (Jq b2.sent)∧Cq w' rs 6 (.slice b2.Ap b2.pend.length b2.cp)∧Cq w' rs 7 (.slice b2.Am b2.marks.length b2.cm)∧Cq w' rs 8 (.slice b2.Af b2.fls.length b2.cf)) (by kernel_rfl) ⟨(qaB (C.out.ext Ext.drew1)).2.1,(BS.out.ext Ext.drew1).cell 0,(BS.out.ext Ext.drew1).cell 1,(BS.out.ext Ext.drew1).cell 2,(BS.out.ext Ext.drew1).cell 3,(BS.out.ext Ext.drew1).cell 4,(BS.out.ext Ext.drew1).cell 5,(BS.out.ext Ext.drew1).cell 6,(BS.out.ext Ext.drew1).cell 7,(BS.out.ext Ext.drew1).cell 8⟩ (fun hHeld=>?_)
     have XD:Hid (Ext w6 w6.drew):=hJ Ext.drew1
     replace BL2:=hJ (BL2.out.trans (XD.out.mono C.out.Bsz))
     replace RD:=hJ (RD.out.keep (Stp.ext' (B:=B) (cs:=[]) C.out.Bsz XD.out) (by decide))
     replace BS:=hJ (BS.out.ext XD.out)
     replace C:=hJ (C.out.ext XD.out)
     clear XD;generalize w6.drew=u8 at *
     refine E_t 0 115 ?_;refine E_t 1 116 ?_;refine E_t 2 117 ?_;refine E_t 3 118 ?_;refine E_t 4 119 ?_;refine E_t 5 120 ?_;refine E_t 6 121 ?_;refine qgo 8 (fun _=>True) (by kernel_rfl) trivial (fun hHeld=>?_)
     refine E_r 7 none fun K hK=>?_
     refine qef qb8 rfl (.tmp 121) (.tmp 120) rfl _ gm (a*9) (by rfl) b2 (by rfl) (qiO C.out HBM.out) (fun j hj=>qgq C.out hal _) ?_
     clear hHeld;refine hK.out _ _ trivial (fun hHeld=>?_)
     clear hK K;try simp only[Act.put]
     refine qaE (by kernel_rfl) (by rfl) ?_
     go_upto_region 19 with fail
     obtain⟨ws9,st9⟩:=C.out.put_mem (b:=b2) rfl hal RD.out
     have e9:qfS u8 gm (a*qb8.k) (qb8.f b2)=(qfS u8 gm (a*9) (qb8.f b2)):=rfl
     rw[e9] at ws9 st9
     clear e9;have C9:Hid (WS (qfS u8 gm (a*9) (qb8.f b2)) B cols p ⟨Av,cv,vs,some (Pq gm 0),cm,mem.set a b2,some (Pq gd 0),cd,down,At,ct,told,some (Pq gs 0),cs,sent,Af,cf,fly⟩):=hJ ws9;have BL9:=hJ (BL2.out.trans st9.below)
     clear ws9 st9 C BL2 BS RD;generalize (qfS u8 gm (a*9) (qb8.f b2))=u9 at *
     refine qac 15 (fun w'=>Cq w' p 4 (.slice (some (Pq gs 0)) sent.length cs)∧Cq w' gs a (.slice t.A t.l.length t.c)) (by kernel_rfl) ⟨(qaB (C9.out.ext Ext.drew1)).2.2.2.2.1,qnq (C9.out.ext Ext.drew1).sent HSN.out⟩ (fun hHeld=>?_)
     have XD:Hid (Ext u9 u9.drew):=hJ Ext.drew1
     replace BL9:=hJ (BL9.out.trans (XD.out.mono C9.out.Bsz))
     replace C9:=hJ (C9.out.ext XD.out)
     clear XD;generalize u9.drew=v4 at *
     refine E_t 0 122 ?_;refine E_t 1 123 ?_;refine E_t 2 124 ?_;refine E_t 3 125 ?_;refine E_t 4 126 ?_;refine E_t 5 127 ?_;refine E_t 6 128 ?_;refine E_t 7 129 ?_;refine E_t 8 130 ?_;refine E_t 9 131 ?_;refine E_t 10 132 ?_;refine E_t 11 133 ?_;refine E_t 12 134 ?_;refine E_r 13 (some 135) fun K hK=>?_
     go_simp;have EA:Hid (Ext v4 (v4.alloc (.cells #[.string (qax [x,y])] 9))):=hJ (Ext.new _ _)
     have HRE:Hid (Row (v4.alloc (.cells #[.string (qax [x,y])] 9)) (some (Pq v4.heap.size 0)) (qda.cells [[x,y]])):=hJ (Elem.one_row (E:=qda) (BIs.new _ _ _))
     replace BL9:=hJ (BL9.out.trans (EA.out.mono C9.out.Bsz));replace C9:=hJ (C9.out.ext EA.out)
     clear EA;generalize (v4.alloc (.cells #[.string (qax [x,y])] 9))=v5 at *
     generalize v4.heap.size=r_e at *
     clear hHeld;refine hK.out _ _ ⟨(qaB C9.out).2.2.2.2.1,qnq C9.out.sent HSN.out⟩ (fun hHeld=>?_)
     clear hK K;try simp only[Act.put,aP1,aP2,aP3]
     refine E_r 14 (some 136) fun K hK=>?_
     refine qby qda rfl (.tmp 133) (.tmp 135) rfl v5 B _ t.l (by rfl) _ 1 1 [[x,y]] (by rfl) rfl HRE.out (by decide) ⟨(C9.out.si a t HSN.out).1,fun _ _=>⟨trivial,fun r hr=>by simp[qda] at hr⟩⟩ (fun _ _=>⟨trivial,fun r hr=>by simp[qda] at hr⟩) (by omega) C9.out.Bsz ?_
     intro v3 w3 ho3 hg3 hs3
     obtain⟨NT,hNT⟩:∃l',l'=t.l++[[x,y]]:=⟨_,rfl⟩
     rw[←hNT] at ho3
     obtain⟨A3,c3,col3,rfl,bx3,f3,e3,ws3,st3⟩:=C9.out.app_sent rfl HSN.out hNT ho3 hg3 hs3
     have HNT:=hJ hNT;have CF:=hJ ws3;have BF:=hJ (BL9.out.trans st3.below)
     have q3:w3.cell? (Pq p 4)=some (.slice (some (Pq gs 0)) sent.length cs):=bx3.cell 4
     clear ho3 hg3 hs3 bx3 ws3 st3 hNT;clear hHeld;refine hK.out _ _ ⟨q3,e3⟩ (fun hHeld=>?_)
     clear hK K;try simp only[Act.put,aP1,aP2,aP3]
     refine qbc (by rfl) (by kernel_rfl) ?_
     go_wp2;have FIN:=FINH.out
     have HM:=HM0.out.trans (congrArg (fun z=>(z,true)) (qox (A:=A3) (c:=c3) HDW.out (by rw[HMW.out,HE.out]) (by rw[HMW.out,HST.out]) HSN.out HNT.out))
     exact qcA
end Go.Proofs.YtponbabbabnaeaaGreat
