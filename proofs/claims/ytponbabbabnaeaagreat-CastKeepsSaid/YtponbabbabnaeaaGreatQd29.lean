/- Part 29 of the proof: contracts of functions that the statement reaches. Conditions: as each theorem says. -/
import Derived.Test.YtponbabbabnaeaaGreatQd01
import Derived.Test.YtponbabbabnaeaaGreatQd28
import Derived.Test.YtponbabbabnaeaaGreatQd16
import Derived.Test.YtponbabbabnaeaaGreatQd13
import Derived.Test.YtponbabbabnaeaaGreatQd21
set_option maxRecDepth 100000
namespace Go.Proofs.YtponbabbabnaeaaGreat
open Go.RowKit
theorem qqY {P : Prop} (h : P := by
 clear y0 y1 y2 y3 y4 y5 y6 y7 y8 z0 z1 z2 z3 z4 z5 z6 z7 z8;clear hHeld;refine hK.out _ _ ⟨(qaB C.out).1,(qaB C.out).2.1,qaa C.out HBM.out 0 rfl,qaa C.out HBM.out 1 rfl,qaa C.out HBM.out 2 rfl,qaa C.out HBM.out 3 rfl,qaa C.out HBM.out 4 rfl,qaa C.out HBM.out 5 rfl,qaa C.out HBM.out 6 rfl,qaa C.out HBM.out 7 rfl,qaa C.out HBM.out 8 rfl,qbD C.out HUM.out 0 rfl,qbD C.out HUM.out 1 rfl⟩ (fun hHeld=>?_)
 clear hK K;try simp only[Act.put,aP1,aP2,aP3]
 refine E_t 22 8 ?_;refine qaE (by kernel_rfl) (by rfl) ?_
 go_wp2;go_meet
 exact⟨_,mb,col6,rfl,rfl,B_s,K_s,C,G,HCS,BL⟩) : P := h
section
variable {w w':World} {B p c:Nat} {col col':Nat→Nat} {cs:List Nat} {m:WM}
theorem qrD{A:Option Addr}{n:Nat}{l:List VwM}{k:Nat}(h:Arr qas w B col c (.slice A l.length n) l)(hk:k<l.length):∃g v,A=some (Pq g 0)∧l[k]?=some v∧w.cell? (Pq g (k*2))=some (Jq (VwM.n v))∧w.cell? (Pq g (k*2+1))=some (.slice v.A v.xs.length v.c):=by
 obtain⟨g,m,hv,_⟩:=h.addr (by omega)
 simp only[Value.slice.injEq,true_and] at hv
 obtain⟨rfl,rfl⟩:=hv
 have hf:=List.getElem?_eq_getElem hk
 exact⟨g,_,rfl,hf,h.cell hf (j:=0) rfl,h.cell hf (j:=1) rfl⟩
theorem qbD{g k cv:Nat}{v:VwM}{u:Value}{Am Ad At As Af:Option Addr}{cm cd ct cs cf:Nat}{vs:List VwM}{mem:List BM}{down:List Bool}{told:List TlM}{sent:List SnM}{fly:List FyM}(h:WS w B col p ⟨some (Pq g 0),cv,vs,Am,cm,mem,Ad,cd,down,At,ct,told,As,cs,sent,Af,cf,fly⟩)(hv:vs[k]?=some v)(j:Nat)(hu:(qas.f v)[j]?=some u):w.cell? (Pq g (k*2+j))=some u:=
 h.vs.cell hv (j:=j) hu
theorem ql6{A:Option Addr}{l:List VwM}(h:qas.Box w A l)(hl:0<l.length):∃b o n,A=some (Pq b o)∧(qbB (vws l) 0).1=n∧w.cell? (Pq b o)=some (Jq n):=by
 obtain⟨b,o,v,h1,_,h3,_,h5⟩:=h.at_ hl
 refine⟨b,o,v.n,h1,?_,?_⟩
 ·unfold qbB vws;simp only[List.getElem?_map,h5.out];rfl
 ·have:=h3.out 0 (Jq v.n) rfl
  simpa using this
end
set_option maxHeartbeats 2000000 in
theorem qna(m:WM)(B:Nat)(col:Nat→Nat)(p i:Nat)(v0:Int)(w:World)(h:WS w B col p m)(hi:i<m.mem.length)(hvl:0<m.vs.length)(hv0:(qbB (vws m.vs) 0).1=v0)(hb0:(qbB (qeM m.wd i).views 0).1=v0∧0<(qeM m.wd i).views.length)(hn:m.vs.length≤100000)
  (hux:∀u∈m.vs,u.xs.length≤1000000) (hok:(qdp m.wd i).2=true) :
  Calls Tryz.prog 100 #[.pointer (some (Pq p 0)),Jq (i:Int)] w (qjK B p w (.bool true) (qdp m.wd i).1):=by
 obtain⟨Av,cv,vs,Am,cm,mem,Ad,cd,down,At,ct,told,As,cs,sent,Af,cf,fly⟩:=m
 simp only at hi hvl hv0 hn
 obtain⟨gm,b,hAm,_,_,_,hb,e0,e1,e2,e3,e4,e5,e6,e7,e8⟩:=qf3 h.mem hi
 simp only at hAm hb
 subst hAm
 rw[qe7 hb] at hb0
 obtain⟨gv,v,hAv,hvv,cv0,_⟩:=qrD h.vs (k:=0) hvl
 simp only at hAv hvv
 subst hAv
 have hvn:v.n=v0:=by rw[←hv0];unfold qbB vws;simp only[List.getElem?_map,hvv];rfl
 rw[hvn] at cv0
 have hrd:=h.reads hb
 obtain⟨bv,ov,bn,hBv,cb0⟩:=ql6 hrd.1.vs (by have:=hb0.2;rw[show b.st.views=vws b.vs from rfl,qaI] at this;exact this)
 have hbn:bn=v0:=by obtain⟨h1,h2⟩:=cb0;rw[←hb0.1,←h1];rfl
 rw[hbn] at cb0
 obtain⟨_,cb0⟩:=cb0
 clear hvn hbn hvv;have hat:Hid (qfP (⟨some (Pq gv 0),cv,vs,some (Pq gm 0),cm,mem,Ad,cd,down,At,ct,told,As,cs,sent,Af,cf,fly⟩:WM).wd i=(b.vs.length:Int)):=hJ (by unfold qfP;rw[qe7 hb,hb0.1,show (qbB (⟨some (Pq gv 0),cv,vs,some (Pq gm 0),cm,mem,Ad,cd,down,At,ct,told,As,cs,sent,Af,cf,fly⟩:WM).wd.views 0).1=v0 from hv0,show b.st.views=vws b.vs from rfl,qaI];omega)
 have hbl:b.vs.length≤100000:=hrd.2.vs
 have hbp:0<b.vs.length:=by have:=hb0.2;rw[show b.st.views=vws b.vs from rfl,qaI] at this;exact this
 have HBM:=hJ hb
 have HMW:Hid (qeM (⟨some (Pq gv 0),cv,vs,some (Pq gm 0),cm,mem,Ad,cd,down,At,ct,told,As,cs,sent,Af,cf,fly⟩:WM).wd i=b.st):=hJ (qe7 hb)
 have C:=hJ h
 have BL:Hid (Below B w w):=hJ (Below.refl _ _)
 obtain⟨y0,y1,y2,y3,y4,y5⟩:=qaB h
 clear y2 y3 y4 y5 hb hrd hb0 hv0 h;simp only at y0 y1
 rw[hBv] at e1
 clear hBv;have hwz:IntKind.i64.wrap 0=0:=IntWalk.i64_in _ (by omega)
 have hwn:IntKind.i64.wrap (b.vs.length:Int)=(b.vs.length:Int):=IntWalk.i64_in _ (by omega)
 go_enter Tryz.func100,Tryz.ntmps100
 go_upto_region 2 with fail
 have T0:w.drew.cell? (Pq p 0)=some (.slice (some (Pq gv 0)) vs.length cv)∧w.drew.cell? (Pq p 1)=some (.slice (some (Pq gm 0)) mem.length cm)∧w.drew.cell? (Pq gm (i*9+1))=some (.slice (some (Pq bv ov)) b.vs.length b.cv)∧w.drew.cell? (Pq bv ov)=some (Jq v0)∧w.drew.cell? (Pq gv 0)=some (Jq v0):=⟨y0,y1,e1,cb0,cv0⟩
 refine qac 20 (fun w'=>Cq w' p 0 (.slice (some (Pq gv 0)) vs.length cv)∧Cq w' p 1 (.slice (some (Pq gm 0)) mem.length cm)∧Cq w' gm (i*9+1) (.slice (some (Pq bv ov)) b.vs.length b.cv)∧Cq w' bv ov (Jq v0)∧Cq w' gv 0 (Jq v0)) (by kernel_rfl) T0 (fun hHeld=>?_)
 have XD:Hid (Ext w w.drew):=hJ Ext.drew1
 replace BL:=hJ (BL.out.trans (XD.out.mono C.out.Bsz))
 replace C:=hJ (C.out.ext XD.out)
 clear XD y0 y1 e0 e1 e2 e3 e4 e5 e6 e7 e8 cb0 cv0;generalize w.drew=u1 at *
 refine E_t 0 18 ?_;refine E_t 1 19 ?_;refine E_t 2 20 ?_;refine E_t 3 21 ?_;refine E_t 4 22 ?_;refine E_t 5 23 ?_;refine E_t 6 24 ?_;refine E_t 7 25 ?_;refine E_t 8 26 ?_;refine E_t 9 27 ?_;refine E_t 10 28 ?_;refine E_t 11 29 ?_;refine E_t 12 30 ?_;refine E_t 13 31 ?_;refine E_t 14 32 ?_;refine E_t 15 33 ?_;refine E_t 16 34 ?_;refine E_t 17 35 ?_;refine E_t 18 36 ?_;refine E_t 19 6 ?_;refine qaE (by kernel_rfl) (by rfl) ?_
 have y0:=(qaB C.out).1
 by_cases hlt:b.vs.length<vs.length
 rotate_left
 ·have HR:Hid (qdp (⟨some (Pq gv 0),cv,vs,some (Pq gm 0),cm,mem,Ad,cd,down,At,ct,told,As,cs,sent,Af,cf,fly⟩:WM).wd i=((⟨some (Pq gv 0),cv,vs,some (Pq gm 0),cm,mem,Ad,cd,down,At,ct,told,As,cs,sent,Af,cf,fly⟩:WM).wd,true)):=hJ (by unfold qdp;rw[hat.out];refine if_pos ?_;show ((vws vs).length:Int)≤_;rw[qaI];omega)
  go_wp2;go_ret
  exact⟨_,col,rfl,C.out,by rw[HR.out],BL.out⟩
 obtain⟨gv',u,hAv',hu,cu0,cu1⟩:=qrD C.out.vs (k:=b.vs.length) hlt
 simp only[Option.some.injEq,Addr.mk.injEq,and_true] at hAv'
 subst hAv'
 simp only at hu
 have hui:=C.out.vs.inn u (List.mem_of_getElem? hu)
 have HUR:=hJ (hui.2 (u.A,qam u.xs) (by simp[qas]))
 have HUM:=hJ hu
 clear hui;have hvu:qbB (⟨some (Pq gv 0),cv,vs,some (Pq gm 0),cm,mem,Ad,cd,down,At,ct,told,As,cs,sent,Af,cf,fly⟩:WM).wd.views b.vs.length=(u.n,u.xs):=by show qbB (vws vs) b.vs.length=_;unfold qbB vws;simp only[List.getElem?_map,hu];rfl
 have HR:Hid (qdp (⟨some (Pq gv 0),cv,vs,some (Pq gm 0),cm,mem,Ad,cd,down,At,ct,told,As,cs,sent,Af,cf,fly⟩:WM).wd i=if (qaR b.st (u.n,u.xs)).2≠0 then ((⟨some (Pq gv 0),cv,vs,some (Pq gm 0),cm,mem,Ad,cd,down,At,ct,told,As,cs,sent,Af,cf,fly⟩:WM).wd,false) else (qiI (⟨some (Pq gv 0),cv,vs,some (Pq gm 0),cm,mem,Ad,cd,down,At,ct,told,As,cs,sent,Af,cf,fly⟩:WM).wd i (qaR b.st (u.n,u.xs)).1,true)):=hJ (by unfold qdp;rw[hat.out];refine(if_neg ?_).trans ?_;show ¬((vws vs).length:Int)≤_;rw[qaI];omega;simp only[Int.toNat_natCast,HMW.out,hvu])
 have HOK:Hid ((qaR b.st (u.n,u.xs)).2=0):=hJ (by rw[HR.out] at hok;split at hok;cases hok;next hn=>simpa using hn)
 have hxl:=hux u (List.mem_of_getElem? hu)
 have HW:Hid ((qdp (⟨some (Pq gv 0),cv,vs,some (Pq gm 0),cm,mem,Ad,cd,down,At,ct,told,As,cs,sent,Af,cf,fly⟩:WM).wd i).1=qiI (⟨some (Pq gv 0),cv,vs,some (Pq gm 0),cm,mem,Ad,cd,down,At,ct,told,As,cs,sent,Af,cf,fly⟩:WM).wd i (qaR b.st (u.n,u.xs)).1):=hJ (by rw[HR.out,if_neg (by rw[HOK.out];simp)])
 clear hok hvu hu hux HR cu0 cu1 y0;go_upto_region 5 with fail
 go_cut [7,8] (fun s7 s8 wx=>∃(rs:Nat) (mb:BM) (colx:Nat→Nat),s7=.pointer (some (Pq rs 0))∧s8=Jq (qaR b.st (u.n,u.xs)).2∧Hid (BIs wx rs mb.cells 28)∧Hid (colx rs=9)∧Hid (WS wx B colx p ⟨some (Pq gv 0),cv,vs,some (Pq gm 0),cm,mem,Ad,cd,down,At,ct,told,As,cs,sent,Af,cf,fly⟩)∧Hid (RdC wx colx mb)∧Hid (mb.st=(qaR b.st (u.n,u.xs)).1)∧Hid (Below B w wx))
 case first=>
  refine qac 23 (fun w'=>Cq w' p 0 (.slice (some (Pq gv 0)) vs.length cv)∧Cq w' p 1 (.slice (some (Pq gm 0)) mem.length cm)∧Cq w' gm (i*9) (Jq b.self)∧Cq w' gm (i*9+1) (.slice b.Av b.vs.length b.cv)∧Cq w' gm (i*9+2) (Jq b.base)∧Cq w' gm (i*9+3) (.slice b.Al b.log.length b.cl)∧Cq w' gm (i*9+4) (Jq b.stable)∧Cq w' gm (i*9+5) (Jq b.sent)∧Cq w' gm (i*9+6) (.slice b.Ap b.pend.length b.cp)∧Cq w' gm (i*9+7) (.slice b.Am b.marks.length b.cm)∧Cq w' gm (i*9+8) (.slice b.Af b.fls.length b.cf)∧Cq w' gv (b.vs.length*2) (Jq u.n)∧Cq w' gv (b.vs.length*2+1) (.slice u.A u.xs.length u.c)) (by kernel_rfl) ⟨(qaB (C.out.ext Ext.drew1)).1,(qaB (C.out.ext Ext.drew1)).2.1,qaa (C.out.ext Ext.drew1) HBM.out 0 rfl,qaa (C.out.ext Ext.drew1) HBM.out 1 rfl,qaa (C.out.ext Ext.drew1) HBM.out 2 rfl,qaa (C.out.ext Ext.drew1) HBM.out 3 rfl,qaa (C.out.ext Ext.drew1) HBM.out 4 rfl,qaa (C.out.ext Ext.drew1) HBM.out 5 rfl,qaa (C.out.ext Ext.drew1) HBM.out 6 rfl,qaa (C.out.ext Ext.drew1) HBM.out 7 rfl,qaa (C.out.ext Ext.drew1) HBM.out 8 rfl,qbD (C.out.ext Ext.drew1) HUM.out 0 rfl,qbD (C.out.ext Ext.drew1) HUM.out 1 rfl⟩ (fun hHeld=>?_)
  have XD:Hid (Ext u1 u1.drew):=hJ Ext.drew1
  have ST:=hJ (Stp.ext' (B:=B) (cs:=[]) (col:=col) C.out.Bsz XD.out)
  replace BL:=hJ (BL.out.trans ST.out.below)
  replace C:=hJ (C.out.keepB ST.out (by decide) (fun k hk=>C.out.z k (Nat.le_trans (XD.out).size hk)))
  clear ST;clear XD;generalize u1.drew=u2 at *
  refine E_t 0 47 ?_;refine E_t 1 48 ?_;refine E_t 2 49 ?_;refine E_t 3 50 ?_;refine E_t 4 51 ?_;refine E_t 5 52 ?_;refine E_t 6 53 ?_;refine E_t 7 54 ?_;refine E_t 8 55 ?_;refine E_t 9 56 ?_;refine E_t 10 57 ?_;refine E_t 11 58 ?_;refine E_t 12 59 ?_;refine E_t 13 60 ?_;refine E_t 14 61 ?_;refine E_t 15 62 ?_;refine qc3 [16,20] (by kernel_rfl) (by simp) ?_
  refine(AllE.cons (o:=⟨some 63,_,_,_,_,_⟩) rfl (fun K hK=>?_) (AllE.cons (o:=⟨some 7,_,_,_,_,_⟩) rfl (fun K hK=>?_) AllE.nil))
  ·go_simp
   go_at_call 24;refine(qha b u.n u.A u.c u.xs _ (C.out.reads HBM.out).1 (C.out.reads HBM.out).2 ((C.out.vs.inn u (List.mem_of_getElem? HUM.out)).2 (u.A,qam u.xs) (by simp[qas])).1 hxl).mono ?_
   rintro en w3 ⟨mb,rfl,hcs,hrd,hft,hx,hnw⟩
   have G:Hid (RdC w3 col mb):=hJ (qgA hrd hft hnw C.out.z)
   have HCS:=hJ hcs
   clear hcs hrd hft hnw;have ST:=hJ (Stp.ext' (B:=B) (cs:=[]) (col:=col) C.out.Bsz hx)
   replace BL:=hJ (BL.out.trans ST.out.below)
   replace C:=hJ (C.out.keepB ST.out (by decide) (fun k hk=>C.out.z k (Nat.le_trans (hx).size hk)))
   clear ST;clear hx;clear hHeld;refine hK.out _ _ ⟨(qaB C.out).1,(qaB C.out).2.1,qaa C.out HBM.out 0 rfl,qaa C.out HBM.out 1 rfl,qaa C.out HBM.out 2 rfl,qaa C.out HBM.out 3 rfl,qaa C.out HBM.out 4 rfl,qaa C.out HBM.out 5 rfl,qaa C.out HBM.out 6 rfl,qaa C.out HBM.out 7 rfl,qaa C.out HBM.out 8 rfl,qbD C.out HUM.out 0 rfl,qbD C.out HUM.out 1 rfl⟩ (fun hHeld=>?_)
   clear hK K;try simp only[Act.put,aP1,aP2,aP3]
   refine E_t 17 46 ?_;refine E_t 18 64 ?_;refine E_t 19 65 ?_;refine E_r 20 (some 7) fun K hK=>?_
   go_simp;have ST:Hid (Stp B [] col w3 (qdg col w3.heap.size 9) (w3.alloc (.cells Yq 28))):=hJ (Stp.newBox C.out.Bsz)
   have B_s:Hid (BIs (w3.alloc (.cells Yq 28)) w3.heap.size Yq 28):=hJ (BIs.new _ _ _)
   have K_s:Hid ((qdg col w3.heap.size 9) w3.heap.size=9):=hJ qch
   have HBr:Hid (B≤w3.heap.size):=hJ C.out.Bsz
   replace BL:=hJ (BL.out.trans ST.out.below)
   replace C:=hJ (C.out.keepB ST.out (by decide) (qej C.out.z))
   replace G:=hJ (G.out.keep ST.out (by decide))
   clear ST;generalize (qdg col w3.heap.size 9)=col6 at *
   generalize (w3.alloc (.cells Yq 28))=u6 at *
   generalize w3.heap.size=r_s at *
   have Q_s:=HBr
   clear HBr;clear hHeld;refine hK.out _ _ ⟨(qaB C.out).1,(qaB C.out).2.1,qaa C.out HBM.out 0 rfl,qaa C.out HBM.out 1 rfl,qaa C.out HBM.out 2 rfl,qaa C.out HBM.out 3 rfl,qaa C.out HBM.out 4 rfl,qaa C.out HBM.out 5 rfl,qaa C.out HBM.out 6 rfl,qaa C.out HBM.out 7 rfl,qaa C.out HBM.out 8 rfl,qbD C.out HUM.out 0 rfl,qbD C.out HUM.out 1 rfl⟩ (fun hHeld=>?_)
   clear hK K;try simp only[Act.put,aP1,aP2,aP3]
   refine E_r 21 none fun K hK=>?_
   obtain⟨y0,y1,y2,y3,y4,y5,y6,y7,y8⟩:=qbC B_s.out
   obtain⟨z0,z1,z2,z3,z4,z5,z6,z7,z8⟩:=B_s.out.free9
   go_simp;have ST:Hid (Stp B [9] col6 u6 col6 (((((((((u6.setCell (Pq r_s 0) (Jq mb.self)).setCell (Pq r_s 1) (.slice mb.Av mb.vs.length mb.cv)).setCell (Pq r_s 2) (Jq mb.base)).setCell (Pq r_s 3) (.slice mb.Al mb.log.length mb.cl)).setCell (Pq r_s 4) (Jq mb.stable)).setCell (Pq r_s 5) (Jq mb.sent)).setCell (Pq r_s 6) (.slice mb.Ap mb.pend.length mb.cp)).setCell (Pq r_s 7) (.slice mb.Am mb.marks.length mb.cm)).setCell (Pq r_s 8) (.slice mb.Af mb.fls.length mb.cf))):=hJ (Stp.wrote qak Q_s.out C.out.Bsz (by rw[K_s.out];decide))
   have BN:Hid (BIs (((((((((u6.setCell (Pq r_s 0) (Jq mb.self)).setCell (Pq r_s 1) (.slice mb.Av mb.vs.length mb.cv)).setCell (Pq r_s 2) (Jq mb.base)).setCell (Pq r_s 3) (.slice mb.Al mb.log.length mb.cl)).setCell (Pq r_s 4) (Jq mb.stable)).setCell (Pq r_s 5) (Jq mb.sent)).setCell (Pq r_s 6) (.slice mb.Ap mb.pend.length mb.cp)).setCell (Pq r_s 7) (.slice mb.Am mb.marks.length mb.cm)).setCell (Pq r_s 8) (.slice mb.Af mb.fls.length mb.cf)) r_s mb.cells 28):=hJ (qaJ B_s.out)
   clear B_s;have B_s:=BN
   clear BN;replace BL:=hJ (BL.out.trans ST.out.below)
   replace C:=hJ (C.out.keepB ST.out (by decide) (fun k hk=>C.out.z k (Nat.le_trans qak.size hk)))
   replace G:=hJ (G.out.keep ST.out (by decide))
   clear ST;generalize (((((((((u6.setCell (Pq r_s 0) (Jq mb.self)).setCell (Pq r_s 1) (.slice mb.Av mb.vs.length mb.cv)).setCell (Pq r_s 2) (Jq mb.base)).setCell (Pq r_s 3) (.slice mb.Al mb.log.length mb.cl)).setCell (Pq r_s 4) (Jq mb.stable)).setCell (Pq r_s 5) (Jq mb.sent)).setCell (Pq r_s 6) (.slice mb.Ap mb.pend.length mb.cp)).setCell (Pq r_s 7) (.slice mb.Am mb.marks.length mb.cm)).setCell (Pq r_s 8) (.slice mb.Af mb.fls.length mb.cf))=u7 at *
   exact qqY
  ·go_simp
   have ST:Hid (Stp B [] col u2 (qdg col u2.heap.size 9) (u2.alloc (.cells Yq 28))):=hJ (Stp.newBox C.out.Bsz)
   have B_s:Hid (BIs (u2.alloc (.cells Yq 28)) u2.heap.size Yq 28):=hJ (BIs.new _ _ _)
   have K_s:Hid ((qdg col u2.heap.size 9) u2.heap.size=9):=hJ qch
   have HBr:Hid (B≤u2.heap.size):=hJ C.out.Bsz
   replace BL:=hJ (BL.out.trans ST.out.below)
   replace C:=hJ (C.out.keepB ST.out (by decide) (qej C.out.z))
   clear ST;generalize (qdg col u2.heap.size 9)=col6 at *
   generalize (u2.alloc (.cells Yq 28))=u6 at *
   generalize u2.heap.size=r_s at *
   have Q_s:=HBr
   clear HBr;clear hHeld;refine hK.out _ _ ⟨(qaB C.out).1,(qaB C.out).2.1,qaa C.out HBM.out 0 rfl,qaa C.out HBM.out 1 rfl,qaa C.out HBM.out 2 rfl,qaa C.out HBM.out 3 rfl,qaa C.out HBM.out 4 rfl,qaa C.out HBM.out 5 rfl,qaa C.out HBM.out 6 rfl,qaa C.out HBM.out 7 rfl,qaa C.out HBM.out 8 rfl,qbD C.out HUM.out 0 rfl,qbD C.out HUM.out 1 rfl⟩ (fun hHeld=>?_)
   clear hK K;try simp only[Act.put,aP1,aP2,aP3]
   refine E_r 16 (some 63) fun K hK=>?_
   go_simp;go_at_call 24;refine(qha b u.n u.A u.c u.xs _ (C.out.reads HBM.out).1 (C.out.reads HBM.out).2 ((C.out.vs.inn u (List.mem_of_getElem? HUM.out)).2 (u.A,qam u.xs) (by simp[qas])).1 hxl).mono ?_
   rintro en w3 ⟨mb,rfl,hcs,hrd,hft,hx,hnw⟩
   have G:Hid (RdC w3 col6 mb):=hJ (qgA hrd hft hnw C.out.z)
   have HCS:=hJ hcs
   clear hcs hrd hft hnw;have ST:=hJ (Stp.ext' (B:=B) (cs:=[]) (col:=col6) C.out.Bsz hx)
   replace BL:=hJ (BL.out.trans ST.out.below)
   replace C:=hJ (C.out.keepB ST.out (by decide) (fun k hk=>C.out.z k (Nat.le_trans (hx).size hk)))
   replace K_s:=hJ ((ST.out.hue _ B_s.out.lt).trans K_s.out)
   replace B_s:=hJ (ST.out.bis B_s.out (by rw[←ST.out.hue _ B_s.out.lt,K_s.out];decide))
   clear ST;clear hx;clear hHeld;refine hK.out _ _ ⟨(qaB C.out).1,(qaB C.out).2.1,qaa C.out HBM.out 0 rfl,qaa C.out HBM.out 1 rfl,qaa C.out HBM.out 2 rfl,qaa C.out HBM.out 3 rfl,qaa C.out HBM.out 4 rfl,qaa C.out HBM.out 5 rfl,qaa C.out HBM.out 6 rfl,qaa C.out HBM.out 7 rfl,qaa C.out HBM.out 8 rfl,qbD C.out HUM.out 0 rfl,qbD C.out HUM.out 1 rfl⟩ (fun hHeld=>?_)
   clear hK K;try simp only[Act.put,aP1,aP2,aP3]
   refine E_t 17 46 ?_;refine E_t 18 64 ?_;refine E_t 19 65 ?_;refine E_r 21 none fun K hK=>?_
   obtain⟨y0,y1,y2,y3,y4,y5,y6,y7,y8⟩:=qbC B_s.out
   obtain⟨z0,z1,z2,z3,z4,z5,z6,z7,z8⟩:=B_s.out.free9
   go_simp;have ST:Hid (Stp B [9] col6 w3 col6 (((((((((w3.setCell (Pq r_s 0) (Jq mb.self)).setCell (Pq r_s 1) (.slice mb.Av mb.vs.length mb.cv)).setCell (Pq r_s 2) (Jq mb.base)).setCell (Pq r_s 3) (.slice mb.Al mb.log.length mb.cl)).setCell (Pq r_s 4) (Jq mb.stable)).setCell (Pq r_s 5) (Jq mb.sent)).setCell (Pq r_s 6) (.slice mb.Ap mb.pend.length mb.cp)).setCell (Pq r_s 7) (.slice mb.Am mb.marks.length mb.cm)).setCell (Pq r_s 8) (.slice mb.Af mb.fls.length mb.cf))):=hJ (Stp.wrote qak Q_s.out C.out.Bsz (by rw[K_s.out];decide))
   have BN:Hid (BIs (((((((((w3.setCell (Pq r_s 0) (Jq mb.self)).setCell (Pq r_s 1) (.slice mb.Av mb.vs.length mb.cv)).setCell (Pq r_s 2) (Jq mb.base)).setCell (Pq r_s 3) (.slice mb.Al mb.log.length mb.cl)).setCell (Pq r_s 4) (Jq mb.stable)).setCell (Pq r_s 5) (Jq mb.sent)).setCell (Pq r_s 6) (.slice mb.Ap mb.pend.length mb.cp)).setCell (Pq r_s 7) (.slice mb.Am mb.marks.length mb.cm)).setCell (Pq r_s 8) (.slice mb.Af mb.fls.length mb.cf)) r_s mb.cells 28):=hJ (qaJ B_s.out)
   clear B_s;have B_s:=BN
   clear BN;replace BL:=hJ (BL.out.trans ST.out.below)
   replace C:=hJ (C.out.keepB ST.out (by decide) (fun k hk=>C.out.z k (Nat.le_trans qak.size hk)))
   replace G:=hJ (G.out.keep ST.out (by decide))
   clear ST;generalize (((((((((w3.setCell (Pq r_s 0) (Jq mb.self)).setCell (Pq r_s 1) (.slice mb.Av mb.vs.length mb.cv)).setCell (Pq r_s 2) (Jq mb.base)).setCell (Pq r_s 3) (.slice mb.Al mb.log.length mb.cl)).setCell (Pq r_s 4) (Jq mb.stable)).setCell (Pq r_s 5) (Jq mb.sent)).setCell (Pq r_s 6) (.slice mb.Ap mb.pend.length mb.cp)).setCell (Pq r_s 7) (.slice mb.Am mb.marks.length mb.cm)).setCell (Pq r_s 8) (.slice mb.Af mb.fls.length mb.cf))=u7 at *
   exact qqY
 case rest=>
  obtain⟨rs,mb,colx,rfl,rfl,BS,KS,CX,GX,HCS,BX⟩:=hcut
  rw[HOK.out]
  clear C BL;go_upto_region 8 with fail
  refine qac 6 (fun w'=>Cq w' p 1 (.slice (some (Pq gm 0)) mem.length cm)∧Cq w' rs 0 (Jq mb.self)∧Cq w' rs 1 (.slice mb.Av mb.vs.length mb.cv)∧Cq w' rs 2 (Jq mb.base)∧Cq w' rs 3 (.slice mb.Al mb.log.length mb.cl)∧Cq w' rs 4 (Jq mb.stable)∧Cq w' rs 5 (Jq mb.sent)∧Cq w' rs 6 (.slice mb.Ap mb.pend.length mb.cp)∧Cq w' rs 7 (.slice mb.Am mb.marks.length mb.cm)∧Cq w' rs 8 (.slice mb.Af mb.fls.length mb.cf)) (by kernel_rfl) ⟨(qaB (CX.out.ext Ext.drew1)).2.1,(BS.out.ext Ext.drew1).cell 0,(BS.out.ext Ext.drew1).cell 1,(BS.out.ext Ext.drew1).cell 2,(BS.out.ext Ext.drew1).cell 3,(BS.out.ext Ext.drew1).cell 4,(BS.out.ext Ext.drew1).cell 5,(BS.out.ext Ext.drew1).cell 6,(BS.out.ext Ext.drew1).cell 7,(BS.out.ext Ext.drew1).cell 8⟩ (fun hHeld=>?_)
  have XD:Hid (Ext wc wc.drew):=hJ Ext.drew1
  replace BX:=hJ (BX.out.trans (XD.out.mono CX.out.Bsz))
  replace GX:=hJ (GX.out.keep (Stp.ext' (B:=B) (cs:=[]) CX.out.Bsz XD.out) (by decide))
  replace BS:=hJ (BS.out.ext XD.out)
  replace CX:=hJ (CX.out.ext XD.out)
  clear XD;generalize wc.drew=u8 at *
  refine E_t 0 68 ?_;refine E_t 1 69 ?_;refine E_t 2 70 ?_;refine E_t 3 71 ?_;refine E_t 4 72 ?_;refine E_t 5 73 ?_;refine qbc (by rfl) (by kernel_rfl) ?_
  obtain⟨k0,k1,k2,k3,k4,k5,k6,k7,k8⟩:u8.cell? (Pq gm (i*9))=some (Jq b.self)∧u8.cell? (Pq gm (i*9+1))=some (.slice b.Av b.vs.length b.cv)∧u8.cell? (Pq gm (i*9+2))=some (Jq b.base)∧u8.cell? (Pq gm (i*9+3))=some (.slice b.Al b.log.length b.cl)∧u8.cell? (Pq gm (i*9+4))=some (Jq b.stable)∧u8.cell? (Pq gm (i*9+5))=some (Jq b.sent)∧u8.cell? (Pq gm (i*9+6))=some (.slice b.Ap b.pend.length b.cp)∧u8.cell? (Pq gm (i*9+7))=some (.slice b.Am b.marks.length b.cm)∧u8.cell? (Pq gm (i*9+8))=some (.slice b.Af b.fls.length b.cf):=⟨qaa CX.out HBM.out 0 rfl,qaa CX.out HBM.out 1 rfl,qaa CX.out HBM.out 2 rfl,qaa CX.out HBM.out 3 rfl,qaa CX.out HBM.out 4 rfl,qaa CX.out HBM.out 5 rfl,qaa CX.out HBM.out 6 rfl,qaa CX.out HBM.out 7 rfl,qaa CX.out HBM.out 8 rfl⟩
  have fz:=qgq CX.out hi
  go_wp2;go_ret
  obtain⟨ws9,st9⟩:=CX.out.put_mem (b:=mb) rfl hi GX.out
  have e9:qfS u8 gm (i*qb8.k) (qb8.f mb)=(((((((((u8.setCell (Pq gm (i*9)) (Jq mb.self)).setCell (Pq gm (i*9+1)) (.slice mb.Av mb.vs.length mb.cv)).setCell (Pq gm (i*9+2)) (Jq mb.base)).setCell (Pq gm (i*9+3)) (.slice mb.Al mb.log.length mb.cl)).setCell (Pq gm (i*9+4)) (Jq mb.stable)).setCell (Pq gm (i*9+5)) (Jq mb.sent)).setCell (Pq gm (i*9+6)) (.slice mb.Ap mb.pend.length mb.cp)).setCell (Pq gm (i*9+7)) (.slice mb.Am mb.marks.length mb.cm)).setCell (Pq gm (i*9+8)) (.slice mb.Af mb.fls.length mb.cf)):=rfl
  rw[e9] at ws9 st9
  refine⟨_,colx,rfl,ws9,?_,BX.out.trans st9.below⟩
  rw[HW.out,←HCS.out]
  simp only[WM.wd,qiI,List.map_set]
theorem qpt{w0 w w':World}{r:Nat}{A:Option Addr}{n c:Nat}{l:List VwM}(h:qas.OB w w0.heap.size (.slice A n c) l)(hn:∀v∈l,qrR w0 v.A (qam v.xs))(hw:Wrote r w w')(hr:r<w0.heap.size):qas.Box w' A l:=
 ⟨Row.wrote h.1.row (fun p _ hp e=>by subst hp;have:=(h.1.lt p.block rfl).1;omega) hw,fun v hv=>⟨(h.2 v hv).1,fun q hq=>Row.wrote ((h.2 v hv).2 q hq).1 (fun p hne hp e=>by
  simp only[qas,List.mem_cons,List.not_mem_nil,or_false] at hq
  subst hq
  have:=hn v hv p hne hp;omega) hw⟩⟩
set_option maxHeartbeats 1000000 in
theorem qmb(A:Option Addr)(c:Nat)(l:List VwM)(self:Int)(w:World)(h:qas.Box w A l)(hn:l.length≤100000)(hx:∀v∈l,v.xs.length≤1000000)(hv:qaq (vws l)=true)(hs:qbr (qaf (vws l)).2 self=true)(hl:0<l.length) :
  Calls Tryz.prog 163 #[.slice A l.length c,Jq self] w (qhO w (qcu (vws l) self)):=by
 have HJ:Hid (qcu (vws l) self=(⟨self,vws l,-1,[],0,0,[],[],[]⟩,0)):=hJ (by unfold qcu;rw[hv,hs];rfl)
 have hxl:=qe9 hx
 obtain⟨⟨ln,lx⟩,hlast⟩:∃v,qaf (vws l)=v:=⟨_,rfl⟩
 rw[hlast] at hs hxl
 simp only at hs hxl
 have HL:=hJ hlast;have HV:=hJ hv;have HS:=hJ hs
 have X0:Hid (Ext w (w.alloc (.cells Yq 28))):=hJ (Ext.new _ _)
 have B0:Hid (BIs (w.alloc (.cells Yq 28)) w.heap.size Yq 28):=hJ (BIs.new _ _ _)
 have H0:=hJ (h.ext X0.out)
 have hfd:=qbm
 clear h hv hs hlast;go_enter Tryz.func163,Tryz.ntmps163
 go_wp2_with fail
 refine(qdB A c l _ H0.out (by omega) hx).mono ?_
 rintro en w1 ⟨rfl,hx1⟩
 rw[HV.out]
 replace X0:=hJ (X0.out.trans hx1);replace B0:=hJ (B0.out.ext hx1);replace H0:=hJ (H0.out.ext hx1)
 clear hx1;go_wp2_with fail
 refine(qdj A c l _ H0.out hl (by omega) ln lx HL.out).mono ?_
 rintro en w2 ⟨A2,c2,rfl,_,_,HR2,hx2⟩
 replace X0:=hJ (X0.out.trans hx2);replace B0:=hJ (B0.out.ext hx2);replace H0:=hJ (H0.out.ext hx2)
 clear hx2;go_wp2_with fail
 refine(qbH A2 c2 lx self _ HR2.out (by omega)).mono ?_
 rintro en w2' ⟨rfl,rfl⟩
 rw[HS.out]
 have hle:=B0.out.lt
 go_wp2_with fail
 refine(qdy A c l _ H0.out (by omega) hx).mono ?_
 rintro en w3 ⟨l',HE,HN,A3,c3,rfl,h31,h32,ho3,hx3⟩
 replace X0:=hJ (X0.out.trans hx3);replace B0:=hJ (B0.out.ext hx3)
 have HO:=hJ ho3
 have HSZ:=hJ X0.out.size
 clear ho3;obtain⟨y0,y1,y2,y3,y4,y5,y6,y7,y8⟩:=qbC B0.out
 obtain⟨z0,z1,z2,z3,z4,z5,z6,z7,z8⟩:=B0.out.free9
 go_wp2;have BN:Hid (BIs (((((((((w3.setCell (Pw w 0) (Jq self)).setCell (Pw w 1) (.slice A3 l'.length c3)).setCell (Pw w 2) (Jq (-1))).setCell (Pw w 3) Zq).setCell (Pw w 4) (Jq 0)).setCell (Pw w 5) (Jq 0)).setCell (Pw w 6) Zq).setCell (Pw w 7) Zq).setCell (Pw w 8) Zq) w.heap.size #[Jq self,.slice A3 l'.length c3,Jq (-1),Zq,Jq 0,Jq 0,Zq,Zq,Zq] 28):=hJ (qaJ B0.out)
 have XN:Hid (Ext w (((((((((w3.setCell (Pw w 0) (Jq self)).setCell (Pw w 1) (.slice A3 l'.length c3)).setCell (Pw w 2) (Jq (-1))).setCell (Pw w 3) Zq).setCell (Pw w 4) (Jq 0)).setCell (Pw w 5) (Jq 0)).setCell (Pw w 6) Zq).setCell (Pw w 7) Zq).setCell (Pw w 8) Zq)):=hJ (qak.ext X0.out (Nat.le_refl _))
 have RN:Hid (qas.Box (((((((((w3.setCell (Pw w 0) (Jq self)).setCell (Pw w 1) (.slice A3 l'.length c3)).setCell (Pw w 2) (Jq (-1))).setCell (Pw w 3) Zq).setCell (Pw w 4) (Jq 0)).setCell (Pw w 5) (Jq 0)).setCell (Pw w 6) Zq).setCell (Pw w 7) Zq).setCell (Pw w 8) Zq) A3 l'):=hJ (qpt HO.out HN.out qak hle)
 generalize (((((((((w3.setCell (Pw w 0) (Jq self)).setCell (Pw w 1) (.slice A3 l'.length c3)).setCell (Pw w 2) (Jq (-1))).setCell (Pw w 3) Zq).setCell (Pw w 4) (Jq 0)).setCell (Pw w 5) (Jq 0)).setCell (Pw w 6) Zq).setCell (Pw w 7) Zq).setCell (Pw w 8) Zq)=W at *
 obtain⟨g0,g1,g2,g3,g4,g5,g6,g7,g8⟩:=qbC BN.out
 refine bodyPost_ret (v:=.tuple #[.agg #[Jq self,.slice A3 l'.length c3,Jq (-1),Zq,Jq 0,Jq 0,Zq,Zq,Zq],Jq 0]) (by simp[results,Tryz.results163,go_sem,g0,g1,g2,g3,g4,g5,g6,g7,g8]) rfl ?_
 rw[HJ.out,←HE.out]
 have hl':l'.length=l.length:=by have h1:=congrArg List.length HE.out;simpa[vws] using h1
 refine⟨⟨self,-1,0,0,A3,c3,l',none,0,[],none,0,[],none,0,[],none,0,[]⟩,rfl,rfl,⟨RN.out,Row.nil _ _,Row.nil _ _,Row.nil _ _,Elem.Box.nil _ _⟩,⟨by simp only;omega,fun v hv=>?_,by simp,fun _ h=>by simp at h,by simp,fun _ h=>by simp at h,by simp,by simp,fun _ h=>by simp at h,by simp[maxLen]⟩,XN.out,⟨fun q hq hp=>?_,fun v hv q hq hp=>?_,fun _ h=>by simp[Elem.cells] at h,fun _ h=>by simp[Elem.cells] at h,fun _ h=>by simp[Elem.cells] at h,fun _ h=>by simp[Elem.cells] at h,fun _ h=>by simp at h⟩⟩
 ·have h1:v.v∈vws l:=by rw[←HE.out];exact List.mem_map_of_mem hv
  obtain⟨u,hu,he⟩:=List.mem_map.1 h1
  have h2:=hx u hu
  simp only[VwM.v,Prod.mk.injEq] at he
  rw[←he.2];exact h2
 ·simp only at hp
  subst hp
  have:=(HO.out.1.lt q.block rfl).1
  omega
 ·have:=HN.out v hv q hq hp
  omega
end Go.Proofs.YtponbabbabnaeaaGreat
