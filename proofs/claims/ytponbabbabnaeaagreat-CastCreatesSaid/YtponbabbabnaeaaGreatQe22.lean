/- Part 22 of the proof: contracts of functions that the statement reaches. Conditions: as each theorem says. -/
import Derived.Test.YtponbabbabnaeaaGreatQe01
import Derived.Test.YtponbabbabnaeaaGreatQe21
import Derived.Test.YtponbabbabnaeaaGreatQe12
import Derived.Test.YtponbabbabnaeaaGreatQe10
import Derived.Test.YtponbabbabnaeaaGreatQe16
import Derived.Test.YtponbabbabnaeaaGreatQe02
import Derived.Test.YtponbabbabnaeaaGreatQe19
import Derived.Test.YtponbabbabnaeaaGreatQe20
set_option maxRecDepth 100000
namespace Go.Proofs.YtponbabbabnaeaaGreat
open Go.RowKit
theorem qqY {P : Prop} (h : P := by
 clear y0 y1 y2 y3 y4 y5 y6 y7 y8 z0 z1 z2 z3 z4 z5 z6 z7 z8;clear hHeld;refine hK.out _ _ ⟨(qaB C.out).1,(qaB C.out).2.1,qaa C.out HBM.out 0 rfl,qaa C.out HBM.out 1 rfl,qaa C.out HBM.out 2 rfl,qaa C.out HBM.out 3 rfl,qaa C.out HBM.out 4 rfl,qaa C.out HBM.out 5 rfl,qaa C.out HBM.out 6 rfl,qaa C.out HBM.out 7 rfl,qaa C.out HBM.out 8 rfl,qbD C.out HUM.out 0 rfl,qbD C.out HUM.out 1 rfl⟩ (fun hHeld=>?_)
 clear hK K;try simp only[Act.put,aP1,aP2,aP3]
 refine E_t 22 8 ?_;refine qaE (by kernel_rfl) (by rfl) ?_
 go_wp2;go_meet
 exact⟨_,mb,col6,rfl,rfl,B_s,K_s,C,G,HCS,BL⟩) : P := h
section
variable {w w':World} {B p c:Nat} {col col':Nat→Nat} {cs:List Nat} {m:WM}
theorem qrD{A:Option Addr}{n:Nat}{l:List VwM}{k:Nat}(h:Arr qas w B col c (.slice A l.length n) l)(hk:k<l.length):∃g v,A=some (Pq g 0)∧l[k]?=some v∧w.cell? (Pq g (k*2))=some (Jq (VwM.n v))∧w.cell? (Pq g (k*2+1))=some (.slice v.A v.xs.length v.c):=by
 obtain⟨g,m,hv,_⟩:=h.addr (by omega)
 simp only[Value.slice.injEq,true_and] at hv
 obtain⟨rfl,rfl⟩:=hv
 have hf:=List.getElem?_eq_getElem hk
 exact⟨g,_,rfl,hf,h.cell hf (j:=0) rfl,h.cell hf (j:=1) rfl⟩
theorem qbD{g k cv:Nat}{v:VwM}{u:Value}{Am Ad At As Af:Option Addr}{cm cd ct cs cf:Nat}{vs:List VwM}{mem:List BM}{down:List Bool}{told:List TlM}{sent:List SnM}{fly:List FyM}(h:WS w B col p ⟨some (Pq g 0),cv,vs,Am,cm,mem,Ad,cd,down,At,ct,told,As,cs,sent,Af,cf,fly⟩)(hv:vs[k]?=some v)(j:Nat)(hu:(qas.f v)[j]?=some u):w.cell? (Pq g (k*2+j))=some u:=
 h.vs.cell hv (j:=j) hu
theorem ql6{A:Option Addr}{l:List VwM}(h:qas.Box w A l)(hl:0<l.length):∃b o n,A=some (Pq b o)∧(qbB (vws l) 0).1=n∧w.cell? (Pq b o)=some (Jq n):=by
 obtain⟨b,o,v,h1,_,h3,_,h5⟩:=h.at_ hl
 refine⟨b,o,v.n,h1,?_,?_⟩
 ·unfold qbB vws;simp only[List.getElem?_map,h5.out];rfl
 ·have:=h3.out 0 (Jq v.n) rfl
  simpa using this
end
set_option maxHeartbeats 2000000 in
theorem qna(m:WM)(B:Nat)(col:Nat→Nat)(p i:Nat)(v0:Int)(w:World)(h:WS w B col p m)(hi:i<m.mem.length)(hvl:0<m.vs.length)(hv0:(qbB (vws m.vs) 0).1=v0)(hb0:(qbB (qeM m.wd i).views 0).1=v0∧0<(qeM m.wd i).views.length)(hn:m.vs.length≤100000)
  (hux:∀u∈m.vs,u.xs.length≤1000000) (hok:(qdp m.wd i).2=true) :
  Calls Tryz.prog 100 #[.pointer (some (Pq p 0)),Jq (i:Int)] w (qjK B p w (.bool true) (qdp m.wd i).1):=by
 obtain⟨Av,cv,vs,Am,cm,mem,Ad,cd,down,At,ct,told,As,cs,sent,Af,cf,fly⟩:=m
 simp only at hi hvl hv0 hn
 obtain⟨gm,b,hAm,_,_,_,hb,e0,e1,e2,e3,e4,e5,e6,e7,e8⟩:=qf3 h.mem hi
 simp only at hAm hb
 subst hAm
 rw[qe7 hb] at hb0
 obtain⟨gv,v,hAv,hvv,cv0,_⟩:=qrD h.vs (k:=0) hvl
 simp only at hAv hvv
 subst hAv
 have hvn:v.n=v0:=by rw[←hv0];unfold qbB vws;simp only[List.getElem?_map,hvv];rfl
 rw[hvn] at cv0
 have hrd:=h.reads hb
 obtain⟨bv,ov,bn,hBv,cb0⟩:=ql6 hrd.1.vs (by have:=hb0.2;rw[show b.st.views=vws b.vs from rfl,qaI] at this;exact this)
 have hbn:bn=v0:=by obtain⟨h1,h2⟩:=cb0;rw[←hb0.1,←h1];rfl
 rw[hbn] at cb0
 obtain⟨_,cb0⟩:=cb0
 clear hvn hbn hvv;have hat:Hid (qfP (⟨some (Pq gv 0),cv,vs,some (Pq gm 0),cm,mem,Ad,cd,down,At,ct,told,As,cs,sent,Af,cf,fly⟩:WM).wd i=(b.vs.length:Int)):=hJ (by unfold qfP;rw[qe7 hb,hb0.1,show (qbB (⟨some (Pq gv 0),cv,vs,some (Pq gm 0),cm,mem,Ad,cd,down,At,ct,told,As,cs,sent,Af,cf,fly⟩:WM).wd.views 0).1=v0 from hv0,show b.st.views=vws b.vs from rfl,qaI];omega)
 have hbl:b.vs.length≤100000:=hrd.2.vs
 have hbp:0<b.vs.length:=by have:=hb0.2;rw[show b.st.views=vws b.vs from rfl,qaI] at this;exact this
 have HBM:=hJ hb
 have HMW:Hid (qeM (⟨some (Pq gv 0),cv,vs,some (Pq gm 0),cm,mem,Ad,cd,down,At,ct,told,As,cs,sent,Af,cf,fly⟩:WM).wd i=b.st):=hJ (qe7 hb)
 have C:=hJ h
 have BL:Hid (Below B w w):=hJ (Below.refl _ _)
 obtain⟨y0,y1,y2,y3,y4,y5⟩:=qaB h
 clear y2 y3 y4 y5 hb hrd hb0 hv0 h;simp only at y0 y1
 rw[hBv] at e1
 clear hBv;have hwz:IntKind.i64.wrap 0=0:=IntWalk.i64_in _ (by omega)
 have hwn:IntKind.i64.wrap (b.vs.length:Int)=(b.vs.length:Int):=IntWalk.i64_in _ (by omega)
 go_enter Tryz.func100,Tryz.ntmps100
 go_upto_region 2 with fail
 have T0:w.drew.cell? (Pq p 0)=some (.slice (some (Pq gv 0)) vs.length cv)∧w.drew.cell? (Pq p 1)=some (.slice (some (Pq gm 0)) mem.length cm)∧w.drew.cell? (Pq gm (i*9+1))=some (.slice (some (Pq bv ov)) b.vs.length b.cv)∧w.drew.cell? (Pq bv ov)=some (Jq v0)∧w.drew.cell? (Pq gv 0)=some (Jq v0):=⟨y0,y1,e1,cb0,cv0⟩
 refine qac 20 (fun w'=>Cq w' p 0 (.slice (some (Pq gv 0)) vs.length cv)∧Cq w' p 1 (.slice (some (Pq gm 0)) mem.length cm)∧Cq w' gm (i*9+1) (.slice (some (Pq bv ov)) b.vs.length b.cv)∧Cq w' bv ov (Jq v0)∧Cq w' gv 0 (Jq v0)) (by kernel_rfl) T0 (fun hHeld=>?_)
 have XD:Hid (Ext w w.drew):=hJ Ext.drew1
 replace BL:=hJ (BL.out.trans (XD.out.mono C.out.Bsz))
 replace C:=hJ (C.out.ext XD.out)
 clear XD y0 y1 e0 e1 e2 e3 e4 e5 e6 e7 e8 cb0 cv0;generalize w.drew=u1 at *
 refine E_t 0 18 ?_;refine E_t 1 19 ?_;refine E_t 2 20 ?_;refine E_t 3 21 ?_;refine E_t 4 22 ?_;refine E_t 5 23 ?_;refine E_t 6 24 ?_;refine E_t 7 25 ?_;refine E_t 8 26 ?_;refine E_t 9 27 ?_;refine E_t 10 28 ?_;refine E_t 11 29 ?_;refine E_t 12 30 ?_;refine E_t 13 31 ?_;refine E_t 14 32 ?_;refine E_t 15 33 ?_;refine E_t 16 34 ?_;refine E_t 17 35 ?_;refine E_t 18 36 ?_;refine E_t 19 6 ?_;refine qaE (by kernel_rfl) (by rfl) ?_
 have y0:=(qaB C.out).1
 by_cases hlt:b.vs.length<vs.length
 rotate_left
 ·have HR:Hid (qdp (⟨some (Pq gv 0),cv,vs,some (Pq gm 0),cm,mem,Ad,cd,down,At,ct,told,As,cs,sent,Af,cf,fly⟩:WM).wd i=((⟨some (Pq gv 0),cv,vs,some (Pq gm 0),cm,mem,Ad,cd,down,At,ct,told,As,cs,sent,Af,cf,fly⟩:WM).wd,true)):=hJ (by unfold qdp;rw[hat.out];refine if_pos ?_;show ((vws vs).length:Int)≤_;rw[qaI];omega)
  go_wp2;go_ret
  exact⟨_,col,rfl,C.out,by rw[HR.out],BL.out⟩
 obtain⟨gv',u,hAv',hu,cu0,cu1⟩:=qrD C.out.vs (k:=b.vs.length) hlt
 simp only[Option.some.injEq,Addr.mk.injEq,and_true] at hAv'
 subst hAv'
 simp only at hu
 have hui:=C.out.vs.inn u (List.mem_of_getElem? hu)
 have HUR:=hJ (hui.2 (u.A,qam u.xs) (by simp[qas]))
 have HUM:=hJ hu
 clear hui;have hvu:qbB (⟨some (Pq gv 0),cv,vs,some (Pq gm 0),cm,mem,Ad,cd,down,At,ct,told,As,cs,sent,Af,cf,fly⟩:WM).wd.views b.vs.length=(u.n,u.xs):=by show qbB (vws vs) b.vs.length=_;unfold qbB vws;simp only[List.getElem?_map,hu];rfl
 have HR:Hid (qdp (⟨some (Pq gv 0),cv,vs,some (Pq gm 0),cm,mem,Ad,cd,down,At,ct,told,As,cs,sent,Af,cf,fly⟩:WM).wd i=if (qaR b.st (u.n,u.xs)).2≠0 then ((⟨some (Pq gv 0),cv,vs,some (Pq gm 0),cm,mem,Ad,cd,down,At,ct,told,As,cs,sent,Af,cf,fly⟩:WM).wd,false) else (qiI (⟨some (Pq gv 0),cv,vs,some (Pq gm 0),cm,mem,Ad,cd,down,At,ct,told,As,cs,sent,Af,cf,fly⟩:WM).wd i (qaR b.st (u.n,u.xs)).1,true)):=hJ (by unfold qdp;rw[hat.out];refine(if_neg ?_).trans ?_;show ¬((vws vs).length:Int)≤_;rw[qaI];omega;simp only[Int.toNat_natCast,HMW.out,hvu])
 have HOK:Hid ((qaR b.st (u.n,u.xs)).2=0):=hJ (by rw[HR.out] at hok;split at hok;cases hok;next hn=>simpa using hn)
 have hxl:=hux u (List.mem_of_getElem? hu)
 have HW:Hid ((qdp (⟨some (Pq gv 0),cv,vs,some (Pq gm 0),cm,mem,Ad,cd,down,At,ct,told,As,cs,sent,Af,cf,fly⟩:WM).wd i).1=qiI (⟨some (Pq gv 0),cv,vs,some (Pq gm 0),cm,mem,Ad,cd,down,At,ct,told,As,cs,sent,Af,cf,fly⟩:WM).wd i (qaR b.st (u.n,u.xs)).1):=hJ (by rw[HR.out,if_neg (by rw[HOK.out];simp)])
 clear hok hvu hu hux HR cu0 cu1 y0;go_upto_region 5 with fail
 go_cut [7,8] (fun s7 s8 wx=>∃(rs:Nat) (mb:BM) (colx:Nat→Nat),s7=.pointer (some (Pq rs 0))∧s8=Jq (qaR b.st (u.n,u.xs)).2∧Hid (BIs wx rs mb.cells 28)∧Hid (colx rs=9)∧Hid (WS wx B colx p ⟨some (Pq gv 0),cv,vs,some (Pq gm 0),cm,mem,Ad,cd,down,At,ct,told,As,cs,sent,Af,cf,fly⟩)∧Hid (RdC wx colx mb)∧Hid (mb.st=(qaR b.st (u.n,u.xs)).1)∧Hid (Below B w wx))
 case first=>
  refine qac 23 (fun w'=>Cq w' p 0 (.slice (some (Pq gv 0)) vs.length cv)∧Cq w' p 1 (.slice (some (Pq gm 0)) mem.length cm)∧Cq w' gm (i*9) (Jq b.self)∧Cq w' gm (i*9+1) (.slice b.Av b.vs.length b.cv)∧Cq w' gm (i*9+2) (Jq b.base)∧Cq w' gm (i*9+3) (.slice b.Al b.log.length b.cl)∧Cq w' gm (i*9+4) (Jq b.stable)∧Cq w' gm (i*9+5) (Jq b.sent)∧Cq w' gm (i*9+6) (.slice b.Ap b.pend.length b.cp)∧Cq w' gm (i*9+7) (.slice b.Am b.marks.length b.cm)∧Cq w' gm (i*9+8) (.slice b.Af b.fls.length b.cf)∧Cq w' gv (b.vs.length*2) (Jq u.n)∧Cq w' gv (b.vs.length*2+1) (.slice u.A u.xs.length u.c)) (by kernel_rfl) ⟨(qaB (C.out.ext Ext.drew1)).1,(qaB (C.out.ext Ext.drew1)).2.1,qaa (C.out.ext Ext.drew1) HBM.out 0 rfl,qaa (C.out.ext Ext.drew1) HBM.out 1 rfl,qaa (C.out.ext Ext.drew1) HBM.out 2 rfl,qaa (C.out.ext Ext.drew1) HBM.out 3 rfl,qaa (C.out.ext Ext.drew1) HBM.out 4 rfl,qaa (C.out.ext Ext.drew1) HBM.out 5 rfl,qaa (C.out.ext Ext.drew1) HBM.out 6 rfl,qaa (C.out.ext Ext.drew1) HBM.out 7 rfl,qaa (C.out.ext Ext.drew1) HBM.out 8 rfl,qbD (C.out.ext Ext.drew1) HUM.out 0 rfl,qbD (C.out.ext Ext.drew1) HUM.out 1 rfl⟩ (fun hHeld=>?_)
  have XD:Hid (Ext u1 u1.drew):=hJ Ext.drew1
  have ST:=hJ (Stp.ext' (B:=B) (cs:=[]) (col:=col) C.out.Bsz XD.out)
  replace BL:=hJ (BL.out.trans ST.out.below)
  replace C:=hJ (C.out.keepB ST.out (by decide) (fun k hk=>C.out.z k (Nat.le_trans (XD.out).size hk)))
  clear ST;clear XD;generalize u1.drew=u2 at *
  refine E_t 0 47 ?_;refine E_t 1 48 ?_;refine E_t 2 49 ?_;refine E_t 3 50 ?_;refine E_t 4 51 ?_;refine E_t 5 52 ?_;refine E_t 6 53 ?_;refine E_t 7 54 ?_;refine E_t 8 55 ?_;refine E_t 9 56 ?_;refine E_t 10 57 ?_;refine E_t 11 58 ?_;refine E_t 12 59 ?_;refine E_t 13 60 ?_;refine E_t 14 61 ?_;refine E_t 15 62 ?_;refine qc3 [16,20] (by kernel_rfl) (by simp) ?_
  refine(AllE.cons (o:=⟨some 63,_,_,_,_,_⟩) rfl (fun K hK=>?_) (AllE.cons (o:=⟨some 7,_,_,_,_,_⟩) rfl (fun K hK=>?_) AllE.nil))
  ·go_simp
   go_at_call 24;refine(qha b u.n u.A u.c u.xs _ (C.out.reads HBM.out).1 (C.out.reads HBM.out).2 ((C.out.vs.inn u (List.mem_of_getElem? HUM.out)).2 (u.A,qam u.xs) (by simp[qas])).1 hxl).mono ?_
   rintro en w3 ⟨mb,rfl,hcs,hrd,hft,hx,hnw⟩
   have G:Hid (RdC w3 col mb):=hJ (qgA hrd hft hnw C.out.z)
   have HCS:=hJ hcs
   clear hcs hrd hft hnw;have ST:=hJ (Stp.ext' (B:=B) (cs:=[]) (col:=col) C.out.Bsz hx)
   replace BL:=hJ (BL.out.trans ST.out.below)
   replace C:=hJ (C.out.keepB ST.out (by decide) (fun k hk=>C.out.z k (Nat.le_trans (hx).size hk)))
   clear ST;clear hx;clear hHeld;refine hK.out _ _ ⟨(qaB C.out).1,(qaB C.out).2.1,qaa C.out HBM.out 0 rfl,qaa C.out HBM.out 1 rfl,qaa C.out HBM.out 2 rfl,qaa C.out HBM.out 3 rfl,qaa C.out HBM.out 4 rfl,qaa C.out HBM.out 5 rfl,qaa C.out HBM.out 6 rfl,qaa C.out HBM.out 7 rfl,qaa C.out HBM.out 8 rfl,qbD C.out HUM.out 0 rfl,qbD C.out HUM.out 1 rfl⟩ (fun hHeld=>?_)
   clear hK K;try simp only[Act.put,aP1,aP2,aP3]
   refine E_t 17 46 ?_;refine E_t 18 64 ?_;refine E_t 19 65 ?_;refine E_r 20 (some 7) fun K hK=>?_
   go_simp;have ST:Hid (Stp B [] col w3 (qdg col w3.heap.size 9) (w3.alloc (.cells Yq 28))):=hJ (Stp.newBox C.out.Bsz)
   have B_s:Hid (BIs (w3.alloc (.cells Yq 28)) w3.heap.size Yq 28):=hJ (BIs.new _ _ _)
   have K_s:Hid ((qdg col w3.heap.size 9) w3.heap.size=9):=hJ qch
   have HBr:Hid (B≤w3.heap.size):=hJ C.out.Bsz
   replace BL:=hJ (BL.out.trans ST.out.below)
   replace C:=hJ (C.out.keepB ST.out (by decide) (qej C.out.z))
   replace G:=hJ (G.out.keep ST.out (by decide))
   clear ST;generalize (qdg col w3.heap.size 9)=col6 at *
   generalize (w3.alloc (.cells Yq 28))=u6 at *
   generalize w3.heap.size=r_s at *
   have Q_s:=HBr
   clear HBr;clear hHeld;refine hK.out _ _ ⟨(qaB C.out).1,(qaB C.out).2.1,qaa C.out HBM.out 0 rfl,qaa C.out HBM.out 1 rfl,qaa C.out HBM.out 2 rfl,qaa C.out HBM.out 3 rfl,qaa C.out HBM.out 4 rfl,qaa C.out HBM.out 5 rfl,qaa C.out HBM.out 6 rfl,qaa C.out HBM.out 7 rfl,qaa C.out HBM.out 8 rfl,qbD C.out HUM.out 0 rfl,qbD C.out HUM.out 1 rfl⟩ (fun hHeld=>?_)
   clear hK K;try simp only[Act.put,aP1,aP2,aP3]
   refine E_r 21 none fun K hK=>?_
   obtain⟨y0,y1,y2,y3,y4,y5,y6,y7,y8⟩:=qbC B_s.out
   obtain⟨z0,z1,z2,z3,z4,z5,z6,z7,z8⟩:=B_s.out.free9
   go_simp;have ST:Hid (Stp B [9] col6 u6 col6 (((((((((u6.setCell (Pq r_s 0) (Jq mb.self)).setCell (Pq r_s 1) (.slice mb.Av mb.vs.length mb.cv)).setCell (Pq r_s 2) (Jq mb.base)).setCell (Pq r_s 3) (.slice mb.Al mb.log.length mb.cl)).setCell (Pq r_s 4) (Jq mb.stable)).setCell (Pq r_s 5) (Jq mb.sent)).setCell (Pq r_s 6) (.slice mb.Ap mb.pend.length mb.cp)).setCell (Pq r_s 7) (.slice mb.Am mb.marks.length mb.cm)).setCell (Pq r_s 8) (.slice mb.Af mb.fls.length mb.cf))):=hJ (Stp.wrote qak Q_s.out C.out.Bsz (by rw[K_s.out];decide))
   have BN:Hid (BIs (((((((((u6.setCell (Pq r_s 0) (Jq mb.self)).setCell (Pq r_s 1) (.slice mb.Av mb.vs.length mb.cv)).setCell (Pq r_s 2) (Jq mb.base)).setCell (Pq r_s 3) (.slice mb.Al mb.log.length mb.cl)).setCell (Pq r_s 4) (Jq mb.stable)).setCell (Pq r_s 5) (Jq mb.sent)).setCell (Pq r_s 6) (.slice mb.Ap mb.pend.length mb.cp)).setCell (Pq r_s 7) (.slice mb.Am mb.marks.length mb.cm)).setCell (Pq r_s 8) (.slice mb.Af mb.fls.length mb.cf)) r_s mb.cells 28):=hJ (qaJ B_s.out)
   clear B_s;have B_s:=BN
   clear BN;replace BL:=hJ (BL.out.trans ST.out.below)
   replace C:=hJ (C.out.keepB ST.out (by decide) (fun k hk=>C.out.z k (Nat.le_trans qak.size hk)))
   replace G:=hJ (G.out.keep ST.out (by decide))
   clear ST;generalize (((((((((u6.setCell (Pq r_s 0) (Jq mb.self)).setCell (Pq r_s 1) (.slice mb.Av mb.vs.length mb.cv)).setCell (Pq r_s 2) (Jq mb.base)).setCell (Pq r_s 3) (.slice mb.Al mb.log.length mb.cl)).setCell (Pq r_s 4) (Jq mb.stable)).setCell (Pq r_s 5) (Jq mb.sent)).setCell (Pq r_s 6) (.slice mb.Ap mb.pend.length mb.cp)).setCell (Pq r_s 7) (.slice mb.Am mb.marks.length mb.cm)).setCell (Pq r_s 8) (.slice mb.Af mb.fls.length mb.cf))=u7 at *
   exact qqY
  ·go_simp
   have ST:Hid (Stp B [] col u2 (qdg col u2.heap.size 9) (u2.alloc (.cells Yq 28))):=hJ (Stp.newBox C.out.Bsz)
   have B_s:Hid (BIs (u2.alloc (.cells Yq 28)) u2.heap.size Yq 28):=hJ (BIs.new _ _ _)
   have K_s:Hid ((qdg col u2.heap.size 9) u2.heap.size=9):=hJ qch
   have HBr:Hid (B≤u2.heap.size):=hJ C.out.Bsz
   replace BL:=hJ (BL.out.trans ST.out.below)
   replace C:=hJ (C.out.keepB ST.out (by decide) (qej C.out.z))
   clear ST;generalize (qdg col u2.heap.size 9)=col6 at *
   generalize (u2.alloc (.cells Yq 28))=u6 at *
   generalize u2.heap.size=r_s at *
   have Q_s:=HBr
   clear HBr;clear hHeld;refine hK.out _ _ ⟨(qaB C.out).1,(qaB C.out).2.1,qaa C.out HBM.out 0 rfl,qaa C.out HBM.out 1 rfl,qaa C.out HBM.out 2 rfl,qaa C.out HBM.out 3 rfl,qaa C.out HBM.out 4 rfl,qaa C.out HBM.out 5 rfl,qaa C.out HBM.out 6 rfl,qaa C.out HBM.out 7 rfl,qaa C.out HBM.out 8 rfl,qbD C.out HUM.out 0 rfl,qbD C.out HUM.out 1 rfl⟩ (fun hHeld=>?_)
   clear hK K;try simp only[Act.put,aP1,aP2,aP3]
   refine E_r 16 (some 63) fun K hK=>?_
   go_simp;go_at_call 24;refine(qha b u.n u.A u.c u.xs _ (C.out.reads HBM.out).1 (C.out.reads HBM.out).2 ((C.out.vs.inn u (List.mem_of_getElem? HUM.out)).2 (u.A,qam u.xs) (by simp[qas])).1 hxl).mono ?_
   rintro en w3 ⟨mb,rfl,hcs,hrd,hft,hx,hnw⟩
   have G:Hid (RdC w3 col6 mb):=hJ (qgA hrd hft hnw C.out.z)
   have HCS:=hJ hcs
   clear hcs hrd hft hnw;have ST:=hJ (Stp.ext' (B:=B) (cs:=[]) (col:=col6) C.out.Bsz hx)
   replace BL:=hJ (BL.out.trans ST.out.below)
   replace C:=hJ (C.out.keepB ST.out (by decide) (fun k hk=>C.out.z k (Nat.le_trans (hx).size hk)))
   replace K_s:=hJ ((ST.out.hue _ B_s.out.lt).trans K_s.out)
   replace B_s:=hJ (ST.out.bis B_s.out (by rw[←ST.out.hue _ B_s.out.lt,K_s.out];decide))
   clear ST;clear hx;clear hHeld;refine hK.out _ _ ⟨(qaB C.out).1,(qaB C.out).2.1,qaa C.out HBM.out 0 rfl,qaa C.out HBM.out 1 rfl,qaa C.out HBM.out 2 rfl,qaa C.out HBM.out 3 rfl,qaa C.out HBM.out 4 rfl,qaa C.out HBM.out 5 rfl,qaa C.out HBM.out 6 rfl,qaa C.out HBM.out 7 rfl,qaa C.out HBM.out 8 rfl,qbD C.out HUM.out 0 rfl,qbD C.out HUM.out 1 rfl⟩ (fun hHeld=>?_)
   clear hK K;try simp only[Act.put,aP1,aP2,aP3]
   refine E_t 17 46 ?_;refine E_t 18 64 ?_;refine E_t 19 65 ?_;refine E_r 21 none fun K hK=>?_
   obtain⟨y0,y1,y2,y3,y4,y5,y6,y7,y8⟩:=qbC B_s.out
   obtain⟨z0,z1,z2,z3,z4,z5,z6,z7,z8⟩:=B_s.out.free9
   go_simp;have ST:Hid (Stp B [9] col6 w3 col6 (((((((((w3.setCell (Pq r_s 0) (Jq mb.self)).setCell (Pq r_s 1) (.slice mb.Av mb.vs.length mb.cv)).setCell (Pq r_s 2) (Jq mb.base)).setCell (Pq r_s 3) (.slice mb.Al mb.log.length mb.cl)).setCell (Pq r_s 4) (Jq mb.stable)).setCell (Pq r_s 5) (Jq mb.sent)).setCell (Pq r_s 6) (.slice mb.Ap mb.pend.length mb.cp)).setCell (Pq r_s 7) (.slice mb.Am mb.marks.length mb.cm)).setCell (Pq r_s 8) (.slice mb.Af mb.fls.length mb.cf))):=hJ (Stp.wrote qak Q_s.out C.out.Bsz (by rw[K_s.out];decide))
   have BN:Hid (BIs (((((((((w3.setCell (Pq r_s 0) (Jq mb.self)).setCell (Pq r_s 1) (.slice mb.Av mb.vs.length mb.cv)).setCell (Pq r_s 2) (Jq mb.base)).setCell (Pq r_s 3) (.slice mb.Al mb.log.length mb.cl)).setCell (Pq r_s 4) (Jq mb.stable)).setCell (Pq r_s 5) (Jq mb.sent)).setCell (Pq r_s 6) (.slice mb.Ap mb.pend.length mb.cp)).setCell (Pq r_s 7) (.slice mb.Am mb.marks.length mb.cm)).setCell (Pq r_s 8) (.slice mb.Af mb.fls.length mb.cf)) r_s mb.cells 28):=hJ (qaJ B_s.out)
   clear B_s;have B_s:=BN
   clear BN;replace BL:=hJ (BL.out.trans ST.out.below)
   replace C:=hJ (C.out.keepB ST.out (by decide) (fun k hk=>C.out.z k (Nat.le_trans qak.size hk)))
   replace G:=hJ (G.out.keep ST.out (by decide))
   clear ST;generalize (((((((((w3.setCell (Pq r_s 0) (Jq mb.self)).setCell (Pq r_s 1) (.slice mb.Av mb.vs.length mb.cv)).setCell (Pq r_s 2) (Jq mb.base)).setCell (Pq r_s 3) (.slice mb.Al mb.log.length mb.cl)).setCell (Pq r_s 4) (Jq mb.stable)).setCell (Pq r_s 5) (Jq mb.sent)).setCell (Pq r_s 6) (.slice mb.Ap mb.pend.length mb.cp)).setCell (Pq r_s 7) (.slice mb.Am mb.marks.length mb.cm)).setCell (Pq r_s 8) (.slice mb.Af mb.fls.length mb.cf))=u7 at *
   exact qqY
 case rest=>
  obtain⟨rs,mb,colx,rfl,rfl,BS,KS,CX,GX,HCS,BX⟩:=hcut
  rw[HOK.out]
  clear C BL;go_upto_region 8 with fail
  refine qac 6 (fun w'=>Cq w' p 1 (.slice (some (Pq gm 0)) mem.length cm)∧Cq w' rs 0 (Jq mb.self)∧Cq w' rs 1 (.slice mb.Av mb.vs.length mb.cv)∧Cq w' rs 2 (Jq mb.base)∧Cq w' rs 3 (.slice mb.Al mb.log.length mb.cl)∧Cq w' rs 4 (Jq mb.stable)∧Cq w' rs 5 (Jq mb.sent)∧Cq w' rs 6 (.slice mb.Ap mb.pend.length mb.cp)∧Cq w' rs 7 (.slice mb.Am mb.marks.length mb.cm)∧Cq w' rs 8 (.slice mb.Af mb.fls.length mb.cf)) (by kernel_rfl) ⟨(qaB (CX.out.ext Ext.drew1)).2.1,(BS.out.ext Ext.drew1).cell 0,(BS.out.ext Ext.drew1).cell 1,(BS.out.ext Ext.drew1).cell 2,(BS.out.ext Ext.drew1).cell 3,(BS.out.ext Ext.drew1).cell 4,(BS.out.ext Ext.drew1).cell 5,(BS.out.ext Ext.drew1).cell 6,(BS.out.ext Ext.drew1).cell 7,(BS.out.ext Ext.drew1).cell 8⟩ (fun hHeld=>?_)
  have XD:Hid (Ext wc wc.drew):=hJ Ext.drew1
  replace BX:=hJ (BX.out.trans (XD.out.mono CX.out.Bsz))
  replace GX:=hJ (GX.out.keep (Stp.ext' (B:=B) (cs:=[]) CX.out.Bsz XD.out) (by decide))
  replace BS:=hJ (BS.out.ext XD.out)
  replace CX:=hJ (CX.out.ext XD.out)
  clear XD;generalize wc.drew=u8 at *
  refine E_t 0 68 ?_;refine E_t 1 69 ?_;refine E_t 2 70 ?_;refine E_t 3 71 ?_;refine E_t 4 72 ?_;refine E_t 5 73 ?_;refine qbc (by rfl) (by kernel_rfl) ?_
  obtain⟨k0,k1,k2,k3,k4,k5,k6,k7,k8⟩:u8.cell? (Pq gm (i*9))=some (Jq b.self)∧u8.cell? (Pq gm (i*9+1))=some (.slice b.Av b.vs.length b.cv)∧u8.cell? (Pq gm (i*9+2))=some (Jq b.base)∧u8.cell? (Pq gm (i*9+3))=some (.slice b.Al b.log.length b.cl)∧u8.cell? (Pq gm (i*9+4))=some (Jq b.stable)∧u8.cell? (Pq gm (i*9+5))=some (Jq b.sent)∧u8.cell? (Pq gm (i*9+6))=some (.slice b.Ap b.pend.length b.cp)∧u8.cell? (Pq gm (i*9+7))=some (.slice b.Am b.marks.length b.cm)∧u8.cell? (Pq gm (i*9+8))=some (.slice b.Af b.fls.length b.cf):=⟨qaa CX.out HBM.out 0 rfl,qaa CX.out HBM.out 1 rfl,qaa CX.out HBM.out 2 rfl,qaa CX.out HBM.out 3 rfl,qaa CX.out HBM.out 4 rfl,qaa CX.out HBM.out 5 rfl,qaa CX.out HBM.out 6 rfl,qaa CX.out HBM.out 7 rfl,qaa CX.out HBM.out 8 rfl⟩
  have fz:=qgq CX.out hi
  go_wp2;go_ret
  obtain⟨ws9,st9⟩:=CX.out.put_mem (b:=mb) rfl hi GX.out
  have e9:qfS u8 gm (i*qb8.k) (qb8.f mb)=(((((((((u8.setCell (Pq gm (i*9)) (Jq mb.self)).setCell (Pq gm (i*9+1)) (.slice mb.Av mb.vs.length mb.cv)).setCell (Pq gm (i*9+2)) (Jq mb.base)).setCell (Pq gm (i*9+3)) (.slice mb.Al mb.log.length mb.cl)).setCell (Pq gm (i*9+4)) (Jq mb.stable)).setCell (Pq gm (i*9+5)) (Jq mb.sent)).setCell (Pq gm (i*9+6)) (.slice mb.Ap mb.pend.length mb.cp)).setCell (Pq gm (i*9+7)) (.slice mb.Am mb.marks.length mb.cm)).setCell (Pq gm (i*9+8)) (.slice mb.Af mb.fls.length mb.cf)):=rfl
  rw[e9] at ws9 st9
  refine⟨_,colx,rfl,ws9,?_,BX.out.trans st9.below⟩
  rw[HW.out,←HCS.out]
  simp only[WM.wd,qiI,List.map_set]
theorem qpt{w0 w w':World}{r:Nat}{A:Option Addr}{n c:Nat}{l:List VwM}(h:qas.OB w w0.heap.size (.slice A n c) l)(hn:∀v∈l,qrR w0 v.A (qam v.xs))(hw:Wrote r w w')(hr:r<w0.heap.size):qas.Box w' A l:=
 ⟨Row.wrote h.1.row (fun p _ hp e=>by subst hp;have:=(h.1.lt p.block rfl).1;omega) hw,fun v hv=>⟨(h.2 v hv).1,fun q hq=>Row.wrote ((h.2 v hv).2 q hq).1 (fun p hne hp e=>by
  simp only[qas,List.mem_cons,List.not_mem_nil,or_false] at hq
  subst hq
  have:=hn v hv p hne hp;omega) hw⟩⟩
set_option maxHeartbeats 1000000 in
theorem qmb(A:Option Addr)(c:Nat)(l:List VwM)(self:Int)(w:World)(h:qas.Box w A l)(hn:l.length≤100000)(hx:∀v∈l,v.xs.length≤1000000)(hv:qaq (vws l)=true)(hs:qbr (qaf (vws l)).2 self=true)(hl:0<l.length) :
  Calls Tryz.prog 163 #[.slice A l.length c,Jq self] w (qhO w (qcu (vws l) self)):=by
 have HJ:Hid (qcu (vws l) self=(⟨self,vws l,-1,[],0,0,[],[],[]⟩,0)):=hJ (by unfold qcu;rw[hv,hs];rfl)
 have hxl:=qe9 hx
 obtain⟨⟨ln,lx⟩,hlast⟩:∃v,qaf (vws l)=v:=⟨_,rfl⟩
 rw[hlast] at hs hxl
 simp only at hs hxl
 have HL:=hJ hlast;have HV:=hJ hv;have HS:=hJ hs
 have X0:Hid (Ext w (w.alloc (.cells Yq 28))):=hJ (Ext.new _ _)
 have B0:Hid (BIs (w.alloc (.cells Yq 28)) w.heap.size Yq 28):=hJ (BIs.new _ _ _)
 have H0:=hJ (h.ext X0.out)
 have hfd:=qbm
 clear h hv hs hlast;go_enter Tryz.func163,Tryz.ntmps163
 go_wp2_with fail
 refine(qdB A c l _ H0.out (by omega) hx).mono ?_
 rintro en w1 ⟨rfl,hx1⟩
 rw[HV.out]
 replace X0:=hJ (X0.out.trans hx1);replace B0:=hJ (B0.out.ext hx1);replace H0:=hJ (H0.out.ext hx1)
 clear hx1;go_wp2_with fail
 refine(qdj A c l _ H0.out hl (by omega) ln lx HL.out).mono ?_
 rintro en w2 ⟨A2,c2,rfl,_,_,HR2,hx2⟩
 replace X0:=hJ (X0.out.trans hx2);replace B0:=hJ (B0.out.ext hx2);replace H0:=hJ (H0.out.ext hx2)
 clear hx2;go_wp2_with fail
 refine(qbH A2 c2 lx self _ HR2.out (by omega)).mono ?_
 rintro en w2' ⟨rfl,rfl⟩
 rw[HS.out]
 have hle:=B0.out.lt
 go_wp2_with fail
 refine(qdy A c l _ H0.out (by omega) hx).mono ?_
 rintro en w3 ⟨l',HE,HN,A3,c3,rfl,h31,h32,ho3,hx3⟩
 replace X0:=hJ (X0.out.trans hx3);replace B0:=hJ (B0.out.ext hx3)
 have HO:=hJ ho3
 have HSZ:=hJ X0.out.size
 clear ho3;obtain⟨y0,y1,y2,y3,y4,y5,y6,y7,y8⟩:=qbC B0.out
 obtain⟨z0,z1,z2,z3,z4,z5,z6,z7,z8⟩:=B0.out.free9
 go_wp2;have BN:Hid (BIs (((((((((w3.setCell (Pw w 0) (Jq self)).setCell (Pw w 1) (.slice A3 l'.length c3)).setCell (Pw w 2) (Jq (-1))).setCell (Pw w 3) Zq).setCell (Pw w 4) (Jq 0)).setCell (Pw w 5) (Jq 0)).setCell (Pw w 6) Zq).setCell (Pw w 7) Zq).setCell (Pw w 8) Zq) w.heap.size #[Jq self,.slice A3 l'.length c3,Jq (-1),Zq,Jq 0,Jq 0,Zq,Zq,Zq] 28):=hJ (qaJ B0.out)
 have XN:Hid (Ext w (((((((((w3.setCell (Pw w 0) (Jq self)).setCell (Pw w 1) (.slice A3 l'.length c3)).setCell (Pw w 2) (Jq (-1))).setCell (Pw w 3) Zq).setCell (Pw w 4) (Jq 0)).setCell (Pw w 5) (Jq 0)).setCell (Pw w 6) Zq).setCell (Pw w 7) Zq).setCell (Pw w 8) Zq)):=hJ (qak.ext X0.out (Nat.le_refl _))
 have RN:Hid (qas.Box (((((((((w3.setCell (Pw w 0) (Jq self)).setCell (Pw w 1) (.slice A3 l'.length c3)).setCell (Pw w 2) (Jq (-1))).setCell (Pw w 3) Zq).setCell (Pw w 4) (Jq 0)).setCell (Pw w 5) (Jq 0)).setCell (Pw w 6) Zq).setCell (Pw w 7) Zq).setCell (Pw w 8) Zq) A3 l'):=hJ (qpt HO.out HN.out qak hle)
 generalize (((((((((w3.setCell (Pw w 0) (Jq self)).setCell (Pw w 1) (.slice A3 l'.length c3)).setCell (Pw w 2) (Jq (-1))).setCell (Pw w 3) Zq).setCell (Pw w 4) (Jq 0)).setCell (Pw w 5) (Jq 0)).setCell (Pw w 6) Zq).setCell (Pw w 7) Zq).setCell (Pw w 8) Zq)=W at *
 obtain⟨g0,g1,g2,g3,g4,g5,g6,g7,g8⟩:=qbC BN.out
 refine bodyPost_ret (v:=.tuple #[.agg #[Jq self,.slice A3 l'.length c3,Jq (-1),Zq,Jq 0,Jq 0,Zq,Zq,Zq],Jq 0]) (by simp[results,Tryz.results163,go_sem,g0,g1,g2,g3,g4,g5,g6,g7,g8]) rfl ?_
 rw[HJ.out,←HE.out]
 have hl':l'.length=l.length:=by have h1:=congrArg List.length HE.out;simpa[vws] using h1
 refine⟨⟨self,-1,0,0,A3,c3,l',none,0,[],none,0,[],none,0,[],none,0,[]⟩,rfl,rfl,⟨RN.out,Row.nil _ _,Row.nil _ _,Row.nil _ _,Elem.Box.nil _ _⟩,⟨by simp only;omega,fun v hv=>?_,by simp,fun _ h=>by simp at h,by simp,fun _ h=>by simp at h,by simp,by simp,fun _ h=>by simp at h,by simp[maxLen]⟩,XN.out,⟨fun q hq hp=>?_,fun v hv q hq hp=>?_,fun _ h=>by simp[Elem.cells] at h,fun _ h=>by simp[Elem.cells] at h,fun _ h=>by simp[Elem.cells] at h,fun _ h=>by simp[Elem.cells] at h,fun _ h=>by simp at h⟩⟩
 ·have h1:v.v∈vws l:=by rw[←HE.out];exact List.mem_map_of_mem hv
  obtain⟨u,hu,he⟩:=List.mem_map.1 h1
  have h2:=hx u hu
  simp only[VwM.v,Prod.mk.injEq] at he
  rw[←he.2];exact h2
 ·simp only at hp
  subst hp
  have:=(HO.out.1.lt q.block rfl).1
  omega
 ·have:=HN.out v hv q hq hp
  omega
theorem qqy {P : Prop} (h : P := by
 go_wp2_with (first|(go_at_call 33;refine(qcs ⟨some (Pq gv 0),cv,vs,Am,cm,mem,Ad,cd,down,At,ct,told,As,cs,sent,Af,cf,fly⟩ B col2 p jd _ C.out (by simp only;omega)).mono ?_;rintro en wx ⟨rfl,rfl⟩;rw[HIX.out])|(go_at_call 116;refine(qbx lv.A lv.c lv.xs jd _ HRX2.out (by omega)).mono ?_;rintro en wx ⟨rfl,rfl⟩;rw[HHB.out]))
 go_meet
 exact⟨by rw[HE.out],rfl⟩) : P := h
theorem Own.row'{w:World}{B:Nat}{A:Option Addr}{c:Nat}{xs:List Int}{e:TypeId}(h:Own w B e (.slice A xs.length c) (qam xs)):Row w A (qam xs):=by
 have:=h.row
 simpa using this
theorem Own.blk{w:World}{B:Nat}{A:Option Addr}{n c:Nat}{xs:List Value}{e:TypeId}(h:Own w B e (.slice A n c) xs)(_:xs≠[]){q:Addr}(hq:A=some q):B≤q.block:=by
 subst hq
 exact(h.lt q.block rfl).1
theorem qo2{n:Int}{xs cut:List Int}{vn:Int}{ys:List Int}(h:qcr n xs cut=(vn,ys,0)):ys.length≤100:=by
 have:=(qaH (qgL h).2.2.2.2.2.2.2.2).2
 omega
theorem qry{w:World}{B c:Nat}{col:Nat→Nat}{A:Option Addr}{n m:Nat}{l:List VwM}(h:Arr qas w B col c (.slice A n m) l):qas.Box w A l:=⟨h.row,fun a ha=>⟨(h.inn a ha).1,fun r hr=>((h.inn a ha).2 r hr).1⟩⟩
theorem qq5{vs:List Vw}{id:Int}(h:(qcu vs id).2=0):qaq vs=true∧qbr (qaf vs).2 id=true:=by
 unfold qcu at h
 cases h1:qaq vs with
 | false=>rw[h1] at h;simp at h
 | true=>
  cases h2:qbr (qaf vs).2 id with
  | false=>rw[h1,h2] at h;simp at h
  | true=>exact⟨rfl,rfl⟩
theorem qo8(n:Nat):decide (n % 3=0)=((n:Int) % 3 == 0):=by
 rw[Bool.eq_iff_iff];simp only[decide_eq_true_eq,beq_iff_eq];omega
theorem qqX{c:Nat}(hc:c<256)(k:Nat):((((c:Int) / 2 ^ min k 8).tmod 2) == 1)=qg2 c k:=by
 unfold qg2
 have h1:((c:Int) / 2 ^ min k 8)=((c / 2 ^ min k 8:Nat):Int):=by rw[Int.natCast_ediv];norm_cast
 have h2:c / 2 ^ min k 8=c / 2 ^ k:=by
  rcases Nat.le_total k 8 with h|h
  ·rw[Nat.min_eq_left h]
  ·rw[Nat.min_eq_right h,Nat.div_eq_of_lt (by omega),Nat.div_eq_of_lt (Nat.lt_of_lt_of_le hc (by calc 256=2 ^ 8:=rfl
     _≤2 ^ k:=Nat.pow_le_pow_right (by omega) h))]
 rw[h1,h2]
 generalize c / 2 ^ k=q
 rw[Int.tmod_eq_emod_of_nonneg (by omega)]
 rw[Bool.eq_iff_iff]
 simp only[beq_iff_eq,decide_eq_true_eq]
 omega
theorem qsl{c:Nat}{xs:List Int}{k:Nat}{x:Int}(h:xs[k]?=some x)(hb:qg2 c k=true):qlj c xs (k+1)=qlj c xs k++[x]:=by
 unfold qlj
 rw[List.range_succ,List.filter_append,List.map_append]
 simp[hb,h]
theorem qs6{c:Nat}{xs:List Int}{k:Nat}{x:Int}(_:xs[k]?=some x)(hb:qg2 c k=false):qlj c xs (k+1)=qlj c xs k:=by
 unfold qlj
 rw[List.range_succ,List.filter_append,List.map_append]
 simp[hb]
theorem qlf(c:Nat)(xs:List Int)(k:Nat):(qlj c xs k).length≤k:=by
 unfold qlj
 rw[List.length_map]
 have:=List.length_filter_le (qg2 c) (List.range k)
 rw[List.length_range] at this
 exact this
set_option maxHeartbeats 2000000 in
theorem ql3(m:WM)(B:Nat)(col:Nat→Nat)(p:Nat)(mv:Mv)(w:World)(h:WS w B col p m)(hvl:0<m.vs.length)(hn:m.vs.length≤10000)(hm:m.mem.length≤1000)(hd:m.down.length≤1000)(ht:m.told.length≤1000)(hs:m.sent.length≤1000)(hux:∀u∈m.vs,u.xs.length≤16)
  (hc0:mv.cut<256) (hmn:mv.n<65536) (hok:(qbT m.wd mv).2=true) :
  Calls Tryz.prog 102 #[.pointer (some (Pq p 0)),.agg #[.int .u8 (mv.kind:Int),.int .u8 (mv.a:Int),.int .u8 (mv.cut:Int),.int .u16 (mv.n:Int)]] w (qjK B p w (.bool true) (qbT m.wd mv).1):=by
 obtain⟨Av,cv,vs,Am,cm,mem,Ad,cd,down,At,ct,told,As,cs,sent,Af,cf,fly⟩:=m
 simp only at hvl hn hm hd ht hs hux
 obtain⟨nv,hnv⟩:∃j,vs.length=j+1:=⟨vs.length - 1,by omega⟩
 obtain⟨gv,lv,hAv,hlv,cv0,cv1⟩:=qrD h.vs (k:=nv) (by simp only;omega)
 simp only at hAv hlv
 subst hAv
 have hlast:qaf (⟨some (Pq gv 0),cv,vs,Am,cm,mem,Ad,cd,down,At,ct,told,As,cs,sent,Af,cf,fly⟩:WM).wd.views=(lv.n,lv.xs):=by show qaf (vws vs)=_;unfold qaf qbB;rw[qaI,hnv,Nat.add_sub_cancel];unfold vws;simp only[List.getElem?_map,hlv];rfl
 have hxl:=hux lv (List.mem_of_getElem? hlv)
 have HLV:=hJ hlv;have HLAST:=hJ hlast
 clear hlv hlast;have XX:Hid (Ext w (w.alloc (.cells #[.int .u8 (mv.kind:Int),.int .u8 (mv.a:Int),.int .u8 (mv.cut:Int),.int .u16 (mv.n:Int)] 141))):=hJ (Ext.new _ _)
 have B_m:Hid (BIs (w.alloc (.cells #[.int .u8 (mv.kind:Int),.int .u8 (mv.a:Int),.int .u8 (mv.cut:Int),.int .u16 (mv.n:Int)] 141)) w.heap.size #[.int .u8 (mv.kind:Int),.int .u8 (mv.a:Int),.int .u8 (mv.cut:Int),.int .u16 (mv.n:Int)] 141):=hJ (BIs.new _ _ _)
 have K_m:Hid (qdg col w.heap.size 8 w.heap.size=8):=hJ qch
 have C:=hJ (h.keepB (Stp.ext (cs:=[]) h.Bsz XX.out (fun k hk=>if_neg (by omega)):Stp B [] col w (qdg col w.heap.size 8) (w.alloc (.cells #[.int .u8 (mv.kind:Int),.int .u8 (mv.a:Int),.int .u8 (mv.cut:Int),.int .u16 (mv.n:Int)] 141))) (by decide) (qoD h.z (by simp)))
 have BL:Hid (Below B w (w.alloc (.cells #[.int .u8 (mv.kind:Int),.int .u8 (mv.a:Int),.int .u8 (mv.cut:Int),.int .u16 (mv.n:Int)] 141))):=hJ (XX.out.mono h.Bsz)
 clear h XX;have hwn:IntKind.i64.wrap ((vs.length:Int) - 1)=(nv:Int):=by rw[show ((vs.length:Int) - 1)=(nv:Int) by omega];exact IntWalk.i64_in _ (by omega)
 have hnl:nv<vs.length:=by omega
 clear hnv;go_enter Tryz.func102,Tryz.ntmps102
 go_upto_region 1 with fail
 generalize (w.alloc (.cells #[.int .u8 (mv.kind:Int),.int .u8 (mv.a:Int),.int .u8 (mv.cut:Int),.int .u16 (mv.n:Int)] 141))=u0 at *
 generalize qdg col w.heap.size 8=col1 at *
 generalize w.heap.size=r_m at *
 clear cv0 cv1;obtain⟨z0,z1,z2,z3,z4,z5⟩:=qaB C.out
 clear z0 z1 z2 z3 z4 z5;refine qac 14 (fun w'=>Cq w' p 0 (.slice (some (Pq gv 0)) vs.length cv)∧Cq w' gv (nv*2) (Jq lv.n)∧Cq w' gv (nv*2+1) (.slice lv.A lv.xs.length lv.c)) (by kernel_rfl) ⟨(qaB (C.out.ext Ext.drew1)).1,qbD (C.out.ext Ext.drew1) HLV.out 0 rfl,qbD (C.out.ext Ext.drew1) HLV.out 1 rfl⟩ (fun hHeld=>?_)
 have XD:Hid (Ext u0 u0.drew):=hJ Ext.drew1
 have ST:=hJ (Stp.ext' (B:=B) (cs:=[]) (col:=col1) C.out.Bsz XD.out)
 replace BL:=hJ (BL.out.trans ST.out.below)
 replace C:=hJ (C.out.keepB ST.out (by decide) (fun k hk=>C.out.z k (Nat.le_trans (XD.out).size hk)))
 replace K_m:=hJ ((ST.out.hue _ B_m.out.lt).trans K_m.out)
 replace B_m:=hJ (ST.out.bis B_m.out (by rw[←ST.out.hue _ B_m.out.lt,K_m.out];decide))
 clear ST;clear XD;generalize u0.drew=u1 at *
 refine E_t 0 13 ?_;refine E_t 1 14 ?_;refine E_t 2 15 ?_;refine E_t 3 16 ?_;refine E_t 4 17 ?_;refine E_t 5 18 ?_;refine E_t 6 19 ?_;refine E_t 7 20 ?_;refine E_t 8 21 ?_;refine E_t 9 22 ?_;refine E_t 10 23 ?_;refine E_t 11 24 ?_;refine E_r 12 (some 5) fun K hK=>?_
 go_simp;have ST:Hid (Stp B [] col1 u1 (qdg col1 u1.heap.size 9) (u1.alloc (.cells #[Jq 0,Zq] 46))):=hJ (Stp.newBox C.out.Bsz)
 have B_l:Hid (BIs (u1.alloc (.cells #[Jq 0,Zq] 46)) u1.heap.size #[Jq 0,Zq] 46):=hJ (BIs.new _ _ _)
 have K_l:Hid ((qdg col1 u1.heap.size 9) u1.heap.size=9):=hJ qch
 have HBr:Hid (B≤u1.heap.size):=hJ C.out.Bsz
 replace BL:=hJ (BL.out.trans ST.out.below)
 replace C:=hJ (C.out.keepB ST.out (by decide) (qej C.out.z))
 replace K_m:=hJ ((ST.out.hue _ B_m.out.lt).trans K_m.out)
 replace B_m:=hJ (ST.out.bis B_m.out (by rw[←ST.out.hue _ B_m.out.lt,K_m.out];decide))
 clear ST;generalize (qdg col1 u1.heap.size 9)=col2 at *
 generalize (u1.alloc (.cells #[Jq 0,Zq] 46))=u2 at *
 generalize u1.heap.size=r_l at *
 have Q_l:=HBr
 clear HBr;clear hHeld;refine hK.out _ _ ⟨(qaB C.out).1,qbD C.out HLV.out 0 rfl,qbD C.out HLV.out 1 rfl⟩ (fun hHeld=>?_)
 clear hK K;try simp only[Act.put,aP1,aP2,aP3]
 refine E_r 13 none fun K hK=>?_
 have y0:u2.cell? (Pq r_l 0)=some (Jq 0):=B_l.out.cell 0;have y1:u2.cell? (Pq r_l 1)=some Zq:=B_l.out.cell 1
 have z0:=B_l.out.free 0;have z1:=B_l.out.free 1
 go_simp;have WR:Hid (Wrote r_l u2 ((u2.setCell (Pq r_l 0) (Jq lv.n)).setCell (Pq r_l 1) (.slice lv.A lv.xs.length lv.c))):=hJ ((Wrote.set _ _ _ _).trans (Wrote.set _ _ _ _))
 have ST:Hid (Stp B [9] col2 u2 col2 ((u2.setCell (Pq r_l 0) (Jq lv.n)).setCell (Pq r_l 1) (.slice lv.A lv.xs.length lv.c))):=hJ (Stp.wrote WR.out Q_l.out C.out.Bsz (by rw[K_l.out];decide))
 have BN:Hid (BIs ((u2.setCell (Pq r_l 0) (Jq lv.n)).setCell (Pq r_l 1) (.slice lv.A lv.xs.length lv.c)) r_l #[Jq lv.n,.slice lv.A lv.xs.length lv.c] 46):=hJ ((B_l.out.set 0 (Jq lv.n)).set 1 (.slice lv.A lv.xs.length lv.c))
 clear B_l;have B_l:=BN
 clear BN;replace BL:=hJ (BL.out.trans ST.out.below)
 replace C:=hJ (C.out.keepB ST.out (by decide) (fun k hk=>C.out.z k (Nat.le_trans WR.out.size hk)))
 replace K_m:=hJ ((ST.out.hue _ B_m.out.lt).trans K_m.out)
 replace B_m:=hJ (ST.out.bis B_m.out (by rw[←ST.out.hue _ B_m.out.lt,K_m.out];decide))
 clear ST;clear WR y0 y1 z0 z1;generalize ((u2.setCell (Pq r_l 0) (Jq lv.n)).setCell (Pq r_l 1) (.slice lv.A lv.xs.length lv.c))=u3 at *
 clear hHeld;refine hK.out _ _ ⟨(qaB C.out).1,qbD C.out HLV.out 0 rfl,qbD C.out HLV.out 1 rfl⟩ (fun hHeld=>?_)
 clear hK K;try simp only[Act.put,aP1,aP2,aP3]
 refine qaE (by kernel_rfl) (by rfl) ?_
 have XL:Hid (Ext u3 u3):=hJ (Ext.refl _)
 have y1:u3.cell? (Pq r_l 1)=some (.slice lv.A lv.xs.length lv.c):=B_l.out.cell 1
 have y2:u3.cell? (Pq r_m 2)=some (.int .u8 (mv.cut:Int)):=B_m.out.cell 2
 have HRX:Hid (Row u3 lv.A (qam lv.xs)):=hJ ((C.out.vs.inn lv (List.mem_of_getElem? HLV.out)).2 (lv.A,qam lv.xs) (by simp[qas])).1
 go_wp2;go_loopw [6,7] (fun v i wr=>∃k:Nat,k≤lv.xs.length∧i=Jq k∧Own wr u3.heap.size 3 v (qam (qlj mv.cut lv.xs k))∧Ext u3 wr) (fun _ i _=>lv.xs.length - (intOf i).toNat)
 case atStart=>exact⟨0,Nat.zero_le _,rfl,Own.nil _ _ _,Ext.refl _⟩
 case round=>
  obtain⟨k,hk,rfl,ho,hx⟩:=hrel
  have x1:wr.cell? (Pq r_l 1)=some (.slice lv.A lv.xs.length lv.c):=by rw[hx.cell (by exact B_l.out.lt)];exact y1
  have x2:wr.cell? (Pq r_m 2)=some (.int .u8 (mv.cut:Int)):=by rw[hx.cell (by exact B_m.out.lt)];exact y2
  by_cases hlt:k<lv.xs.length
  ·obtain⟨bk,off,x,hLA,hxc,HX⟩:=(HRX.out.ext hx).at_ hlt
   rw[hLA] at x1
   clear hLA;have hcl:=qlf mv.cut lv.xs k
   cases hb:qg2 mv.cut k with
   | true=>
    have HT:=(qqX hc0 k).trans hb
    have HX2:=hJ (qsl HX.out hb)
    clear hb;go_wp2_with (first|(at_builtin;refine qbF rfl (.tmp 39) (.tmp 45) rfl wr u3.heap.size _ (qlj mv.cut lv.xs k) (by rfl) x (by rfl) ho (by omega) hx.size ?_;intro v2 w2 ho2 hg2 hs2))
    go_roundw
    case rel=>exact⟨k+1,by omega,by go_num,by rw[HX2.out];exact ho2,hg2.below hx hx.size (fun q hq=>(ho.lt q hq).1)⟩
    case measure=>simp[intOf];omega
   | false=>
    have HT:=(qqX hc0 k).trans hb
    have HX2:=hJ (qs6 HX.out hb)
    clear hb;go_wp2;go_roundw
    case rel=>exact⟨k+1,by omega,by go_num,by rw[HX2.out];exact ho,hx⟩
    case measure=>simp[intOf];omega
  have hkk:k=lv.xs.length:=by omega
  subst hkk
  have hcl:=qlf mv.cut lv.xs lv.xs.length
  obtain⟨Ac,cc,hv6,hc61,hc62,hr6⟩:=ho.slice
  rw[show (qam (qlj mv.cut lv.xs lv.xs.length)).length=(qlj mv.cut lv.xs lv.xs.length).length by simp[qam]] at hv6 hc61
  subst hv6
  obtain⟨CL,hCL⟩:∃l,l=qlj mv.cut lv.xs lv.xs.length:=⟨_,rfl⟩
  rw[←hCL] at ho hcl hc61 hr6⊢
  have HCL:=hJ hCL;have HR6:=hJ hr6;have HX6:=hJ hx
  clear hCL hr6 ho hc61;replace BL:=hJ (BL.out.trans (hx.mono C.out.Bsz));replace C:=hJ (C.out.ext hx);replace B_m:=hJ (B_m.out.ext hx);replace B_l:=hJ (B_l.out.ext hx)
  clear hx x1 x2 y1 y2;have x1:wr.cell? (Pq r_l 1)=some (.slice lv.A lv.xs.length lv.c):=B_l.out.cell 1
  have x3:wr.cell? (Pq r_m 3)=some (.int .u16 (mv.n:Int)):=B_m.out.cell 3
  have hwc:IntKind.i64.wrap (mv.n:Int)=(mv.n:Int):=IntWalk.i64_in _ (by omega)
  go_upto_region 9 with fail
  obtain⟨jd,hjd⟩:∃x,x=(1+(mv.n:Int) % 1000):=⟨_,rfl⟩
  rw[←hjd]
  have HJD:Hid (qcD mv=jd):=hJ (by rw[hjd];rfl)
  have hjb:1≤jd∧jd≤1000:=by omega
  clear hjd;obtain⟨ix,hix⟩:∃x,qhH (⟨some (Pq gv 0),cv,vs,Am,cm,mem,Ad,cd,down,At,ct,told,As,cs,sent,Af,cf,fly⟩:WM).wd jd=x:=⟨_,rfl⟩
  obtain⟨hb,hhb⟩:∃x,qbr lv.xs jd=x:=⟨_,rfl⟩
  have HIX:=hJ hix;have HHB:=hJ hhb
  clear hix hhb;have HJB:Hid (qk6 (⟨some (Pq gv 0),cv,vs,Am,cm,mem,Ad,cd,down,At,ct,told,As,cs,sent,Af,cf,fly⟩:WM).wd mv=(((mv.n:Int) % 3 == 0)&&(decide (ix<0)&&(!hb&&decide (mem.length<7))))):=hJ (by unfold qk6;rw[HJD.out,HIX.out,HLAST.out,HHB.out,qo8];simp only[WM.wd,List.length_map])
  have HRX2:Hid (Row wr lv.A (qam lv.xs)):=hJ (HRX.out.ext HX6.out)
  obtain⟨jb,hjbb⟩:∃x,qk6 (⟨some (Pq gv 0),cv,vs,Am,cm,mem,Ad,cd,down,At,ct,told,As,cs,sent,Af,cf,fly⟩:WM).wd mv=x:=⟨_,rfl⟩
  rw[hjbb] at HJB
  have HJBB:=hJ hjbb
  clear hjbb;obtain⟨y0,y1,y2,y3,y4,y5⟩:=qaB C.out
  clear y0 y2 y3 y4 y5;simp only at y1
  go_cut [76] (fun s wx=>s=.bool jb∧wx=wr)
  case first=>
   cases h1:((mv.n:Int) % 3 == 0) with
   | false=>
    have HE:Hid (jb=false):=hJ (by rw[HJB.out,h1];rfl)
    go_wp2;go_meet
    exact⟨by rw[HE.out],rfl⟩
   | true=>
    by_cases h2:ix<0
    rotate_left
    ·have HE:Hid (jb=false):=hJ (by rw[HJB.out,h1,decide_eq_false h2];rfl)
     go_wp2_with (first|(go_at_call 33;refine(qcs ⟨some (Pq gv 0),cv,vs,Am,cm,mem,Ad,cd,down,At,ct,told,As,cs,sent,Af,cf,fly⟩ B col2 p jd _ C.out (by simp only;omega)).mono ?_;rintro en wx ⟨rfl,rfl⟩;rw[HIX.out]))
     go_meet
     exact⟨by rw[HE.out],rfl⟩
    cases hb with
    | true=>
     have HE:Hid (jb=false):=hJ (by rw[HJB.out,h1,decide_eq_true h2];rfl)
     exact qqy
    | false=>
     by_cases h4:mem.length<7
     ·have HE:Hid (jb=true):=hJ (by rw[HJB.out,h1,decide_eq_true h2,decide_eq_true h4];rfl)
      have h4':(mem.length:Int)<7:=by omega
      exact qqy
     ·have HE:Hid (jb=false):=hJ (by rw[HJB.out,h1,decide_eq_true h2,decide_eq_false h4];rfl)
      have h4':¬(mem.length:Int)<7:=by omega
      go_wp2_with (first|(go_at_call 33;refine(qcs ⟨some (Pq gv 0),cv,vs,Am,cm,mem,Ad,cd,down,At,ct,told,As,cs,sent,Af,cf,fly⟩ B col2 p jd _ C.out (by simp only;omega)).mono ?_;rintro en wx ⟨rfl,rfl⟩;rw[HIX.out])|(go_at_call 116;refine(qbx lv.A lv.c lv.xs jd _ HRX2.out (by omega)).mono ?_;rintro en wx ⟨rfl,rfl⟩;rw[HHB.out]))
      go_meet
      exact⟨by rw[HE.out,decide_eq_false (by omega)],rfl⟩
  case rest=>
   obtain⟨rfl,rfl⟩:=hcut
   obtain⟨NC,hNC⟩:∃l,qg1 (⟨some (Pq gv 0),cv,vs,Am,cm,mem,Ad,cd,down,At,ct,told,As,cs,sent,Af,cf,fly⟩:WM).wd mv=l:=⟨_,rfl⟩
   have HNC:Hid (NC=if jb then qbZ CL jd else CL):=hJ (by rw[←hNC];unfold qg1;rw[HJBB.out,HJD.out,HLAST.out,HCL.out])
   have HNC0:=hJ hNC
   clear hNC;go_upto_if 76 with (fail)
   go_cut [6] (fun s wx=>∃(A6:Option Addr) (c6:Nat),s=.slice A6 NC.length c6∧NC.length≤100∧Hid (Row wx A6 (qam NC))∧Hid (Ext wc wx))
   case first=>
    cases jb with
    | false=>
     have hE:NC=CL:=HNC.out
     subst hE
     go_wp2;go_meet
     exact⟨Ac,cc,rfl,by omega,HR6,hJ (Ext.refl _)⟩
    | true=>
     have hE:NC=qbZ CL jd:=HNC.out
     have HNE:=hJ hE
     have hnl:NC.length≤100:=by rw[hE,qgY];omega
     clear hE;go_wp2_with (first|(go_at_call 98;refine(qg6 Ac cc CL jd _ HR6.out (by omega)).mono ?_;rintro en w5 ⟨A5,c5,rfl,h51,h52,ho5,hx5⟩;rw[←HNE.out] at ho5⊢;have HO5:=hJ ho5;have HX5:=hJ hx5;clear ho5 hx5))
     go_meet
     exact⟨A5,c5,rfl,hnl,hJ (by have h:=HO5.out.row;simpa using h),HX5⟩
   case rest=>
    obtain⟨A6,c6,rfl,hnl,HR7,HX7⟩:=hcut
    replace BL:=hJ (BL.out.trans (HX7.out.mono C.out.Bsz));replace C:=hJ (C.out.ext HX7.out);replace B_m:=hJ (B_m.out.ext HX7.out);replace B_l:=hJ (B_l.out.ext HX7.out);replace HRX2:=hJ (HRX2.out.ext HX7.out)
    clear x1 x3 y1;have x0:wc.cell? (Pq r_l 0)=some (Jq lv.n):=B_l.out.cell 0
    have x1:wc.cell? (Pq r_l 1)=some (.slice lv.A lv.xs.length lv.c):=B_l.out.cell 1
    obtain⟨⟨vn,ys,er⟩,hnx⟩:∃d,qcr lv.n lv.xs NC=d:=⟨_,rfl⟩
    have HNX:=hJ hnx
    have HDW:Hid (qbT (⟨some (Pq gv 0),cv,vs,Am,cm,mem,Ad,cd,down,At,ct,told,As,cs,sent,Af,cf,fly⟩:WM).wd mv=if er≠0 then ((⟨some (Pq gv 0),cv,vs,Am,cm,mem,Ad,cd,down,At,ct,told,As,cs,sent,Af,cf,fly⟩:WM).wd,true) else if qbr ys jd&&decide (ix<0) then (if (qcu (vws vs++[(vn,ys)]) jd).2≠0 then ({(⟨some (Pq gv 0),cv,vs,Am,cm,mem,Ad,cd,down,At,ct,told,As,cs,sent,Af,cf,fly⟩:WM).wd with views:=vws vs++[(vn,ys)]},false) else (qmy {(⟨some (Pq gv 0),cv,vs,Am,cm,mem,Ad,cd,down,At,ct,told,As,cs,sent,Af,cf,fly⟩:WM).wd with views:=vws vs++[(vn,ys)]} (qcu (vws vs++[(vn,ys)]) jd).1,true)) else ({(⟨some (Pq gv 0),cv,vs,Am,cm,mem,Ad,cd,down,At,ct,told,As,cs,sent,Af,cf,fly⟩:WM).wd with views:=vws vs++[(vn,ys)]},true)):=hJ (by unfold qbT;simp only[HLAST.out,HNC0.out,HJD.out,HIX.out,hnx];rfl)
    clear hnx;go_wp2_with fail
    go_at_call 28;refine(qoa lv.n lv.A A6 lv.c c6 lv.xs NC _ HRX2.out HR7.out (by omega) (by omega)).mono ?_
    rintro en w7 hg7
    rw[HNX.out] at hg7
    obtain⟨A7,c7,rfl,h71,h72,ho7,hx7⟩:=hg7
    simp only at h71 h72 ho7⊢
    have HO7:=hJ ho7
    replace BL:=hJ (BL.out.trans (hx7.mono C.out.Bsz));replace B_m:=hJ (B_m.out.ext hx7);replace B_l:=hJ (B_l.out.ext hx7);replace HRX2:=hJ (HRX2.out.ext hx7)
    have HYR:Hid (Row w7 A7 (qam ys)∧ColR col2 0 A7 (qam ys)):=hJ ⟨ho7.row',fun q hne hq=>C.out.z _ (ho7.blk hne hq)⟩
    replace C:=hJ (C.out.ext hx7)
    clear ho7 hx7 x0 x1;have XA:Hid (Ext w7 (w7.alloc (.cells #[Jq vn,.slice A7 ys.length c7] 46))):=hJ (Ext.new _ _)
    have B_v:Hid (BIs (w7.alloc (.cells #[Jq vn,.slice A7 ys.length c7] 46)) w7.heap.size #[Jq vn,.slice A7 ys.length c7] 46):=hJ (BIs.new _ _ _)
    have K_v:Hid (qdg col2 w7.heap.size 9 w7.heap.size=9):=hJ qch
    have ST:Hid (Stp B [] col2 w7 (qdg col2 w7.heap.size 9) (w7.alloc (.cells #[Jq vn,.slice A7 ys.length c7] 46))):=hJ (Stp.newBox C.out.Bsz)
    replace HYR:=hJ (And.intro (ST.out.row HYR.out.1 HYR.out.2 (by decide)) (ST.out.colR HYR.out.1 HYR.out.2))
    replace BL:=hJ (BL.out.trans ST.out.below);replace HRX2:=hJ (HRX2.out.ext XA.out);replace B_l:=hJ (B_l.out.ext XA.out)
    replace C:=hJ (C.out.keepB ST.out (by decide) (qej C.out.z))
    clear ST XA;go_upto_region 12 with fail
    generalize (w7.alloc (.cells #[Jq vn,.slice A7 ys.length c7] 46))=u8 at *
    generalize qdg col2 w7.heap.size 9=col8 at *
    generalize w7.heap.size=r_v at *
    by_cases her:er=0
    rotate_left
    ·have hern:(er != 0)=true:=by simpa using her
     have HE:Hid (qbT (⟨some (Pq gv 0),cv,vs,Am,cm,mem,Ad,cd,down,At,ct,told,As,cs,sent,Af,cf,fly⟩:WM).wd mv=((⟨some (Pq gv 0),cv,vs,Am,cm,mem,Ad,cd,down,At,ct,told,As,cs,sent,Af,cf,fly⟩:WM).wd,true)):=hJ (by rw[HDW.out,if_pos her])
     clear her;go_wp2;go_ret
     exact⟨_,col8,rfl,C.out,by rw[HE.out],BL.out⟩
    subst her
    replace HDW:=hJ (HDW.out.trans (if_neg (by simp)))
    go_upto_region 14 with fail
    have HVG:Hid (qas.ok ⟨vn,A7,c7,ys⟩∧∀r∈qas.inn ⟨vn,A7,c7,ys⟩,Row u8 r.1 r.2∧ColR col8 0 r.1 r.2):=hJ ⟨⟨h71,h72⟩,fun r hr=>by simp only[qas,List.mem_cons,List.not_mem_nil,or_false] at hr;subst hr;exact HYR.out⟩
    refine qac 8 (fun w'=>Cq w' p 0 (.slice (some (Pq gv 0)) vs.length cv)∧Cq w' r_v 0 (Jq vn)∧Cq w' r_v 1 (.slice A7 ys.length c7)) (by kernel_rfl) ⟨(qaB (C.out.ext Ext.drew1)).1,(B_v.out.ext Ext.drew1).cell 0,(B_v.out.ext Ext.drew1).cell 1⟩ (fun hHeld=>?_)
    have XD:Hid (Ext u8 u8.drew):=hJ Ext.drew1
    replace BL:=hJ (BL.out.trans (XD.out.mono C.out.Bsz))
    have ST:=hJ (Stp.ext' (B:=B) (cs:=[]) (col:=col8) C.out.Bsz XD.out)
    replace HVG:=hJ (And.intro HVG.out.1 (fun r hr=>(And.intro (ST.out.row (HVG.out.2 r hr).1 (HVG.out.2 r hr).2 (by decide)) (HVG.out.2 r hr).2)))
    replace B_v:=hJ (B_v.out.ext XD.out);replace C:=hJ (C.out.ext XD.out)
    clear ST;clear XD;generalize u8.drew=u9 at *
    refine E_t 0 88 ?_;refine E_t 1 89 ?_;refine E_t 2 90 ?_;refine E_t 3 91 ?_;refine E_t 4 92 ?_;refine E_t 5 93 ?_;refine E_r 6 (some 94) fun K hK=>?_
    go_simp;have EA:Hid (Ext u9 (u9.alloc (.cells #[Jq vn,.slice A7 ys.length c7] 46))):=hJ (Ext.new _ _)
    have HRE:Hid (Row (u9.alloc (.cells #[Jq vn,.slice A7 ys.length c7] 46)) (some (Pq u9.heap.size 0)) (qas.cells [⟨vn,A7,c7,ys⟩])):=hJ (Elem.one_row (E:=qas) (BIs.new _ _ _))
    replace BL:=hJ (BL.out.trans (EA.out.mono C.out.Bsz))
    have ST:=hJ (Stp.ext' (B:=B) (cs:=[]) (col:=col8) C.out.Bsz EA.out)
    replace HVG:=hJ (And.intro HVG.out.1 (fun r hr=>(And.intro (ST.out.row (HVG.out.2 r hr).1 (HVG.out.2 r hr).2 (by decide)) (HVG.out.2 r hr).2)))
    replace B_v:=hJ (B_v.out.ext EA.out);replace C:=hJ (C.out.ext EA.out)
    clear ST;clear EA;generalize (u9.alloc (.cells #[Jq vn,.slice A7 ys.length c7] 46))=u10 at *
    generalize u9.heap.size=r_e at *
    clear hHeld;refine hK.out _ _ ⟨(qaB C.out).1,B_v.out.cell 0,B_v.out.cell 1⟩ (fun hHeld=>?_)
    clear hK K;try simp only[Act.put,aP1,aP2,aP3]
    refine E_r 7 (some 95) fun K hK=>?_
    refine qby qas rfl (.tmp 92) (.tmp 94) rfl u10 B _ vs (by rfl) _ 1 1 [⟨vn,A7,c7,ys⟩] (by rfl) rfl HRE.out (by decide) (C.out.vs.ob (by decide)) (C.out.vs.good (by decide) (fun x hx=>by simp only[List.mem_cons,List.not_mem_nil,or_false] at hx;subst hx;exact HVG.out)) (by omega) C.out.Bsz ?_
    intro v3 w3 ho3 hg3 hs3
    obtain⟨NV,hNV⟩:∃l,l=vs++[(⟨vn,A7,c7,ys⟩:VwM)]:=⟨_,rfl⟩
    rw[←hNV] at ho3
    obtain⟨A3,c3,col3,rfl,bx3,ws3,st3⟩:=C.out.push_vs HVG.out hNV ho3 hg3 hs3
    have HNV:=hJ hNV
    have hnvl:NV.length≤100000:=by rw[hNV];simp;omega
    have hnvp:0<NV.length:=by rw[hNV];simp
    clear hNV;have BV3:Hid (BIs w3 r_v #[Jq vn,.slice A7 ys.length c7] 46):=hJ (B_v.out.same (hg3.block _ B_v.out.lt (fun e=>by have h3:=C.out.vs.cv _ e.symm;have h4:=K_v.out;rw[h3] at h4;cases h4)))
    have C3:=hJ ws3;have BL3:=hJ (BL.out.trans st3.below);have KV3:=hJ ((st3.hue _ B_v.out.lt).trans K_v.out);have BX3:=hJ bx3;have ST3:=hJ st3
    have q0:w3.cell? (Pq p 0)=some (.slice (some (Pq gv 0)) vs.length cv):=bx3.cell 0
    have f0:=bx3.free 0
    have HPR:Hid (p≠r_v):=hJ (fun e=>by have h3:=C.out.pc;have h4:=K_v.out;rw[←e,h3] at h4;cases h4)
    clear ho3 hg3 hs3 bx3 ws3 st3;clear hHeld;refine hK.out _ _ ⟨q0,BV3.out.cell 0,BV3.out.cell 1⟩ (fun hHeld=>?_)
    clear hK K;try simp only[Act.put,aP1,aP2,aP3]
    refine qbc (by rfl) (by kernel_rfl) ?_
    go_upto_region 15 with fail
    have B_w:Hid (BIs (w3.setCell (Pq p 0) (.slice A3 NV.length c3)) r_v #[Jq vn,.slice A7 ys.length c7] 46):=hJ (BV3.out.same ((Wrote.set p 0 w3 _).blk BV3.out.lt (Ne.symm HPR.out)))
    have HYW:Hid (Row (w3.setCell (Pq p 0) (.slice A3 NV.length c3)) A7 (qam ys)):=hJ (ST3.out.row (HVG.out.2 (A7,qam ys) (by simp[qas])).1 (HVG.out.2 (A7,qam ys) (by simp[qas])).2 (by decide))
    generalize (w3.setCell (Pq p 0) (.slice A3 NV.length c3))=u11 at *
    clear q0 f0 C BL BV3 BX3 ST3;have HVN:Hid (vws NV=vws vs++[(vn,ys)]):=hJ (by rw[HNV.out];unfold vws;rw[List.map_append];rfl)
    have HIX4:Hid (qhH (⟨A3,c3,NV,Am,cm,mem,Ad,cd,down,At,ct,told,As,cs,sent,Af,cf,fly⟩:WM).wd jd=ix):=hJ HIX.out
    have e1:u11.cell? (Pq r_v 1)=some (.slice A7 ys.length c7):=B_w.out.cell 1
    have hyl:ys.length≤100:=qo2 HNX.out
    obtain⟨hb2,hhb2⟩:∃x,qbr ys jd=x:=⟨_,rfl⟩
    have HHB2:=hJ hhb2
    rw[hhb2] at HDW
    clear hhb2;cases hb2 with
    | false=>
     have HE:Hid (qbT (⟨some (Pq gv 0),cv,vs,Am,cm,mem,Ad,cd,down,At,ct,told,As,cs,sent,Af,cf,fly⟩:WM).wd mv=({(⟨some (Pq gv 0),cv,vs,Am,cm,mem,Ad,cd,down,At,ct,told,As,cs,sent,Af,cf,fly⟩:WM).wd with views:=vws vs++[(vn,ys)]},true)):=hJ (HDW.out.trans (if_neg (by simp)))
     go_wp2_with (first|(go_at_call 116;refine(qbx A7 c7 ys jd _ HYW.out (by omega)).mono ?_;rintro en wx ⟨rfl,rfl⟩;rw[HHB2.out]))
     go_ret
     exact⟨_,col3,rfl,C3.out,by rw[HE.out];simp only[WM.wd,HVN.out],BL3.out⟩
    | true=>
     by_cases h2:ix<0
     rotate_left
     ·have HE:Hid (qbT (⟨some (Pq gv 0),cv,vs,Am,cm,mem,Ad,cd,down,At,ct,told,As,cs,sent,Af,cf,fly⟩:WM).wd mv=({(⟨some (Pq gv 0),cv,vs,Am,cm,mem,Ad,cd,down,At,ct,told,As,cs,sent,Af,cf,fly⟩:WM).wd with views:=vws vs++[(vn,ys)]},true)):=hJ (HDW.out.trans (if_neg (by simp;omega)))
      go_wp2_with (first|(go_at_call 116;refine(qbx A7 c7 ys jd _ HYW.out (by omega)).mono ?_;rintro en wx ⟨rfl,rfl⟩;rw[HHB2.out])|(go_at_call 33;refine(qcs ⟨A3,c3,NV,Am,cm,mem,Ad,cd,down,At,ct,told,As,cs,sent,Af,cf,fly⟩ B col3 p jd _ C3.out (by simp only;omega)).mono ?_;rintro en wx ⟨rfl,rfl⟩;rw[HIX4.out]))
      go_ret
      exact⟨_,col3,rfl,C3.out,by rw[HE.out];simp only[WM.wd,HVN.out],BL3.out⟩
     have HJ2:Hid ((qcu (vws vs++[(vn,ys)]) jd).2=0):=hJ (by rw[HDW.out,if_pos (by simp[h2])] at hok;split at hok;cases hok;next hn=>simpa using hn)
     have HE:Hid (qbT (⟨some (Pq gv 0),cv,vs,Am,cm,mem,Ad,cd,down,At,ct,told,As,cs,sent,Af,cf,fly⟩:WM).wd mv=(qmy {(⟨some (Pq gv 0),cv,vs,Am,cm,mem,Ad,cd,down,At,ct,told,As,cs,sent,Af,cf,fly⟩:WM).wd with views:=vws vs++[(vn,ys)]} (qcu (vws vs++[(vn,ys)]) jd).1,true)):=hJ (HDW.out.trans ((if_pos (by simp[h2])).trans (if_neg (by rw[HJ2.out];simp))))
     have HVV:Hid (qaq (vws NV)=true∧qbr (qaf (vws NV)).2 jd=true):=hJ (qq5 (by have h:=HJ2.out;rw[←HVN.out] at h;exact h))
     have HUX:Hid (∀v∈NV,v.xs.length≤1000000):=hJ (fun v hv=>by rw[HNV.out] at hv;rcases List.mem_append.1 hv with hv|hv;(have:=hux v hv;omega);(simp only[List.mem_cons,List.not_mem_nil,or_false] at hv;subst hv;simp only;omega))
     clear hok;go_upto_region 16 with (first|(go_at_call 116;refine(qbx A7 c7 ys jd _ HYW.out (by omega)).mono ?_;rintro en wx ⟨rfl,rfl⟩;rw[HHB2.out])|(go_at_call 33;refine(qcs ⟨A3,c3,NV,Am,cm,mem,Ad,cd,down,At,ct,told,As,cs,sent,Af,cf,fly⟩ B col3 p jd _ C3.out (by simp only;omega)).mono ?_;rintro en wx ⟨rfl,rfl⟩;rw[HIX4.out]))
     have z0:u11.cell? (Pq p 0)=some (.slice A3 NV.length c3):=(qaB C3.out).1
     go_wp2_with fail
     go_at_call 163;refine(qmb A3 c3 NV jd _ (qry C3.out.vs) hnvl HUX.out HVV.out.1 HVV.out.2 hnvp).mono ?_
     rintro en w12 ⟨jb2,rfl,hcs,hrd,hft,hx,hnw⟩
     rw[HVN.out] at hcs⊢
     rw[HJ2.out]
     have HCS:=hJ hcs;have G:=hJ (qgA hrd hft hnw C3.out.z)
     replace BL3:=hJ (BL3.out.trans (hx.mono C3.out.Bsz));replace C3:=hJ (C3.out.ext hx)
     clear hcs hrd hft hnw hx z0 e1;have EA:Hid (Ext w12 (w12.alloc (.cells jb2.cells 28))):=hJ (Ext.new _ _)
     have B_j:Hid (BIs (w12.alloc (.cells jb2.cells 28)) w12.heap.size jb2.cells 28):=hJ (BIs.new _ _ _)
     have G2:=hJ (qjS G.out EA.out)
     replace BL3:=hJ (BL3.out.trans (EA.out.mono C3.out.Bsz));replace C3:=hJ (C3.out.ext EA.out)
     clear EA;unfold BM.cells
     go_upto_region 19 with fail
     generalize (w12.alloc (.cells jb2.cells 28))=u13 at *
     generalize w12.heap.size=r_j at *
     obtain⟨k0,k1,k2,k3,k4,k5,k6,k7,k8⟩:=qbC B_j.out
     go_wp2_with (first|(go_at_call 94;refine(qrI ⟨A3,c3,NV,Am,cm,mem,Ad,cd,down,At,ct,told,As,cs,sent,Af,cf,fly⟩ B col3 p jb2 _ C3.out G2.out (by simp only;omega) (by simp only;omega) (by simp only;omega) (by simp only;omega)).mono ?_;rintro en w14 ⟨m14,col14,rfl,ws14,hwd,bl14⟩;have C14:=hJ ws14;have HD14:=hJ hwd;have BL14:=hJ (BL3.out.trans bl14);clear ws14 hwd bl14))
     go_ret
     refine⟨m14,col14,rfl,C14.out,?_,BL14.out⟩
     rw[HD14.out,HE.out,HCS.out]
     simp only[WM.wd,HVN.out]
structure FineW(w:Wd):Prop where
 ml:1≤w.mem.length∧w.mem.length≤1000
 dl:w.down.length=w.mem.length
 tl:w.told.length=w.mem.length
 sl:w.sent.length=w.mem.length
 vl:0<w.views.length∧w.views.length≤10000
 vx:∀v∈w.views,v.2.length≤16
 first:∀s∈w.mem,(qbB s.views 0).1=(qbB w.views 0).1∧0<s.views.length
 told:∀t∈w.told,t.length≤100000
 sent:∀t∈w.sent,t.length≤100000
 fl:w.fly.length≤400
 fb:∀f∈w.fly,f.2.2.length≤1000000
 val:∀s∈w.mem,qbp s=true
 tick:∀s∈w.mem,(qbM s).pk.length≤100000∧(qbM s).dl.length≤100000
 recv:∀f∈w.fly,∀s∈w.mem,(qal s f.1 f.2.2).1.pk.length≤100000∧(qal s f.1 f.2.2).1.dl.length≤100000
 hand:∀f∈w.fly,(qc6 w f).2=true
 handfly:∀f∈w.fly,(qc6 w f).1.fly=w.fly
 learn:∀i,i<w.mem.length→(qdp w i).2=true
 decide:∀m,(qbT w m).2=true
theorem qr6{w:Wd}(h:1≤w.mem.length)(x:Int):qeM w (qhH w x).toNat∈w.mem:=by
 have go:∀i,i<w.mem.length→qeM w i∈w.mem:=fun i hi=>by
  unfold qeM
  rw[List.getElem?_eq_getElem hi]
  exact List.getElem_mem hi
 rcases qgt x w.mem 0 with ⟨h1,_⟩|⟨i,s,h1,h2,_⟩
 ·unfold qhH;rw[h1];exact go _ (by show (-1:Int).toNat<_;simp;omega)
 ·unfold qhH;rw[h1];exact go _ (by have:=(List.getElem?_eq_some_iff.1 h2).1;simpa using this)
def mvE:Elem Mv where
 f v:=[.int .u8 (v.kind:Int),.int .u8 (v.a:Int),.int .u8 (v.cut:Int),.int .u16 (v.n:Int)]
 k:=4
 ty:=141
 st:=68
 z:=.agg #[.int .u8 0,.int .u8 0,.int .u8 0,.int .u16 0]
 bytes:=6
 inn _:=[]
 ok _:=True
 len _:=rfl
 one a:=by intro u hu;simp only[List.mem_cons,List.not_mem_nil,or_false] at hu;rcases hu with rfl|rfl|rfl|rfl<;>rfl
 pos:=by decide
 und:=Tryz.underlying68
 info:=by kernel_rfl
 zk:=rfl
 small:=by decide
section
variable {w w':World} {B p c:Nat} {col col':Nat→Nat} {cs:List Nat} {m:WM}
theorem qtA{A:Option Addr}{l:List Mv}{k:Nat}(h:Row w A (mvE.cells l))(hk:k<l.length):∃b o x,A=some (Pq b o)∧b<w.heap.size∧w.cell? (Pq b (o+k*4))=some (.int .u8 ((Mv.kind x:Nat):Int))∧w.cell? (Pq b (o+k*4+1))=some (.int .u8 (x.a:Int))∧w.cell? (Pq b (o+k*4+2))=some (.int .u8 (x.cut:Int))∧w.cell? (Pq b (o+k*4+3))=some (.int .u16 (x.n:Int))∧Hid (l[k]?=some x):=by
 have hx:=List.getElem?_eq_getElem hk
 have hne:mvE.cells l≠[]:=fun e=>by have:=mvE.cells_len l;rw[e] at this;simp[mvE] at this;omega
 obtain⟨b,o,h1,h2,h3⟩:=h hne
 have cj:∀j u,(mvE.f l[k])[j]?=some u→w.cell? (Pq b (o+k*4+j))=some u:=fun j u hu=>by
  have hj:j<4:=by have:=(List.getElem?_eq_some_iff.1 hu).1;rwa [mvE.len] at this
  rw[Nat.add_assoc];exact h3 _ _ (by have h9:=mvE.cells_at hx j hj;rw[show mvE.k=4 from rfl] at h9;rw[h9];exact hu)
 exact⟨b,o,l[k],h1,h2,cj 0 _ rfl,cj 1 _ rfl,cj 2 _ rfl,cj 3 _ rfl,hJ hx⟩
def qtm(B:Nat)(A:Option Addr)(xs:List Value):Prop:=∀p,xs≠[]→A=some p→p.block<B
theorem Row.below{A:Option Addr}{xs:List Value}(h:Row w A xs)(ho:qtm B A xs)(b:Below B w w'):Row w' A xs:=by
 intro hx
 obtain⟨g,off,h1,h2,h3⟩:=h hx
 refine⟨g,off,h1,Nat.lt_of_lt_of_le h2 b.size,fun j u hj=>?_⟩
 have hb:w'.heap[g]?=w.heap[g]?:=b.block g (ho _ hx h1)
 exact(World.cell?_of_block (a:=⟨g,off+j,none⟩) hb).trans (h3 j u hj)
theorem qp4{w0 w1 w2:Wd}{l:List Mv}{k:Nat}{m:Mv}(h:qiN w0 (l.take k)=(w1,true))(hm:l[k]?=some m)(h2:qbE w1 m=(w2,true)):qiN w0 (l.take (k+1))=(w2,true):=by
 have go:∀(l:List Mv) (w0:Wd),qiN w0 l=(w1,true)→qiN w0 (l++[m])=(w2,true):=by
  intro l
  induction l with
  | nil=>
   intro w0 h
   simp only[qiN,Prod.mk.injEq,and_true] at h
   subst h
   simp[qiN,h2]
  | cons a l ih=>
   intro w0 h
   rw[List.cons_append]
   unfold qiN at h⊢
   simp only at h⊢
   split at h
   ·next hb=>rw[if_pos hb];exact ih _ h
   ·simp at h
 rw[List.take_add_one,hm]
 exact go _ _ h
section
variable {w:Wd} {m:Mv} {a q:Nat}
theorem qsW(ha:m.a % w.mem.length=a)(hk:m.kind % 12=0):qbE w m=(qdT w a (qtn m),true):=by
 unfold qbE;simp only[hk,ha,if_true]
theorem qqE(hq:(if 0<w.fly.length then m.n % w.fly.length else 0)=q)(hk:m.kind % 12=5):qbE w m=(if 0<w.fly.length then qhA w q else w,true):=by
 unfold qbE;simp only[hk,hq,if_true];rfl
theorem qsA(hk:m.kind % 12=6):qbE w m=qbT w m:=by
 unfold qbE;simp only[hk,if_true];rfl
theorem qsO(ha:m.a % w.mem.length=a)(hk:m.kind % 12=7):qbE w m=if qeO w a then (w,true) else qdp w a:=by
 unfold qbE;simp only[hk,ha,if_true];rfl
theorem qsU(ha:m.a % w.mem.length=a)(hk:m.kind % 12=8):qbE w m=({w with down:=w.down.set a (decide (m.cut<100)||qeO w a)},true):=by
 unfold qbE;simp only[hk,ha,if_true];rfl
theorem qsF(ha:m.a % w.mem.length=a)(hk:m.kind % 12=1∨m.kind % 12=9):qbE w m=(if qeO w a then w else qkr w a,true):=by
 unfold qbE
 simp only[ha]
 rw[if_neg (by omega),if_neg (by omega),if_neg (by omega),if_neg (by omega),if_neg (by omega),if_pos hk]
theorem qsI(hq:(if 0<w.fly.length then m.n % w.fly.length else 0)=q)(hk:m.kind % 12=2∨m.kind % 12=3∨m.kind % 12=4∨10≤m.kind % 12) :
  qbE w m=if 0<w.fly.length then (if m.kind % 12≠4 then qhA (qc6 w (qcw w q)).1 q else (qc6 w (qcw w q)).1,(qc6 w (qcw w q)).2) else (w,true):=by
 unfold qbE
 simp only[hq]
 rw[if_neg (by omega),if_neg (by omega),if_neg (by omega),if_neg (by omega),if_neg (by omega),if_neg (by omega)]
end
theorem qnP{r:Nat}{x y:UInt8}{t:TypeId}{a b:Int}(h:BIs w r #[.int .u8 a,.int .u8 b] t)(ha:a=(x.toNat:Int))(hb:b=(y.toNat:Int)):Row w (some (Pq r 0)) (qad [x,y]):=by
 subst ha;subst hb
 intro _
 refine⟨r,0,rfl,h.lt,fun j q hj=>?_⟩
 rw[h.cell]
 match j,hj with
 | 0,hj=>simpa[qad] using hj
 | 1,hj=>simpa[qad] using hj
theorem qfu{g i:Nat}{d:Bool}{Av Am At As Af:Option Addr}{cv cm cd ct cs cf:Nat}{vs:List VwM}{mem:List BM}{down:List Bool}{told:List TlM}{sent:List SnM}{fly:List FyM}(h:WS w B col p ⟨Av,cv,vs,Am,cm,mem,some (Pq g 0),cd,down,At,ct,told,As,cs,sent,Af,cf,fly⟩)(hd:down[i]?=some d):w.cell? (Pq g i)=some (.bool d)∧w.frozen? (Pq g i)=false:=by
 obtain⟨g',d',h1,h2,h3,h4⟩:=qjU h.down (i:=i) (List.getElem?_eq_some_iff.1 hd).1
 simp only[Option.some.injEq,Addr.mk.injEq,and_true] at h1
 subst h1
 rw[hd] at h2
 cases h2
 exact⟨h3,h4⟩
theorem qtp{n:Nat}(h:n<256):(n:Int)=((UInt8.ofNat n).toNat:Int):=by rw[UInt8.toNat_ofNat'];omega
end
theorem qrZ{s:St}(h:VS s):(qbM s).pk.length≤100:=by
 have OK:=qgs (qb1.2 h)
 unfold qbM
 rw[if_neg (by rw[qb1.2 h];simp)]
 unfold qeo
 have h16:=(qep OK).2.1
 split
 ·split
  ·unfold qhm
   simp only
   have h1:=(qcP (qaf (qap {(⟨s,[],[]⟩:Cs) with s:=qbY s}).s.views).2 (qap {(⟨s,[],[]⟩:Cs) with s:=qbY s})).2.2
   obtain⟨_,_,k3,_,_,_,k7,_⟩:=qbi {(⟨s,[],[]⟩:Cs) with s:=qbY s}
   rw[k7,k3] at h1
   have h2:(qbY s).views=s.views:=rfl
   simp only[h2,List.length_nil] at h1
   rw[k3]
   simp only[h2]
   omega
  ·unfold qdu
   rw[(qga _ _).2.2]
   have h1:=h.pd
   have h2:=h.pl
   have h3:qay (s.log.take s.stable.toNat) s.self≤qay s.log s.self:=qco _ _ _
   unfold qb3 qdz
   simp only[List.nil_append,List.length_cons,List.length_nil]
   omega
 ·split
  ·simp
  ·simp[qb3]
theorem qnz(c:Cs)(fr:Int)(m:Msg):(qaP c fr m).pk=c.pk:=by
 unfold qaP qa4 qaM qcC qbt
 repeat' split
 all_goals first|rfl|exact(qex _ _).2.2.2.2.2.2.1|exact(qbi _).2.2.2.2.2.2.1
theorem ql4(s:St)(fr:Int)(b:List UInt8):(qal s fr b).1.pk=[]:=by
 unfold qal
 split
 ·rfl
 ·split
  ·rfl
  ·split
   ·exact qnz _ _ _
   ·rfl
theorem qm7{s:St}{c:Cs}(g:Good s c):c.dl.length≤2000:=by
 have h1:=g.gr.st;have h2:=g.vs.st;have h3:=qcN g.vs.based;have h4:=g.z
 omega
theorem Sys.fine{v0:Int}{k:Nat}{w:Wd}{H:qeP}{S:qf6}(h:Sys v0 k w H S)(hk:k≤900):FineW w:=by
 have hv:=qa7 h.core.vld
 have hin:∀s∈w.mem,VS s∧s.views<+:w.views:=h.core.ok
 have hto:∀t∈w.told,∃s∈w.mem,t=s.log.take s.stable.toNat:=fun t ht=>by
  obtain⟨i,hi,rfl⟩:=List.mem_iff_getElem.1 ht
  obtain⟨s,h1,h2⟩:=h.told_of (List.getElem?_eq_getElem hi)
  exact⟨s,List.mem_of_getElem? h1,h2⟩
 refine⟨⟨h.ml.1,by have:=h.ml;omega⟩,h.dl,h.tl,h.sl,⟨by omega,by have:=h.vk;omega⟩,fun v hx=>(qaH (qb7 h.core.vld hx).2.2.1).2,fun s hs=>?_,fun t ht=>?_,fun t ht=>?_,h.flen,fun f hf=>(h.fly f hf).2.2.1,fun s hs=>qb1.2 (hin s hs).1,fun s hs=>?_,fun f hf s hs=>?_,fun f hf=>(h.hand hf).1,fun f hf=>(h.hand hf).2.2,fun i hi=>(h.learn hi).1,fun m=>(h.viewed (by omega) m).1⟩
 ·have h1:=(qa7 (hin s hs).1.vs).1
  exact⟨by rw[qd9 (hin s hs).2 h1],by omega⟩
 ·obtain⟨s,hs,rfl⟩:=hto t ht
  have:=qcN (hin s hs).1.based
  simp only[List.length_take];omega
 ·obtain⟨i,hi,rfl⟩:=List.mem_iff_getElem.1 ht
  have hi':i<w.mem.length:=by rw[←h.sl];exact hi
  have hs:=List.getElem_mem hi'
  have h1:=h.sent i _ (List.getElem?_eq_getElem hi')
  rw[List.getElem?_eq_getElem hi] at h1
  rw[Option.some.inj h1]
  have h2:=(h.core.pend _ hs).1
  have h3:=(hin _ hs).1.pd
  have h4:=(hin _ hs).1.pl
  have h5:=qcN (hin _ hs).1.based
  have h6:qay ((w.mem[i]).log.take (w.mem[i]).stable.toNat) (w.mem[i]).self≤((w.mem[i]).log.take (w.mem[i]).stable.toNat).length:=by unfold qay;exact List.countP_le_length
  simp only[List.length_take] at h6
  omega
 ·have h1:=qrZ (hin s hs).1
  have h2:=qm7 (qg5 (hin s hs).1)
  omega
 ·rw[ql4]
  refine⟨by simp,?_⟩
  rcases qeJ (hin s hs).1 f.1 f.2.2 with ⟨_,h1⟩|⟨_,h1⟩
  ·rw[h1];simp
  ·have:=qm7 h1;omega
end Go.Proofs.YtponbabbabnaeaaGreat
