/- Part 33 of the proof: contracts of functions that the statement reaches. Conditions: as each theorem says. -/
import Derived.Lib.ReflectliteSwap
import Derived.Test.YtponbabbabnaeaaGreatQd01
import Derived.Test.YtponbabbabnaeaaGreatQd28
import Derived.Test.YtponbabbabnaeaaGreatQd32
import Derived.Test.YtponbabbabnaeaaGreatQd30
set_option maxRecDepth 100000
namespace Go.Proofs.YtponbabbabnaeaaGreat
open Go.RowKit
theorem qqp {P : Prop} (h : P := by
 clear y0 y1 y2 y3 y4 y5 y6 y7 y8 z0 z1 z2 z3 z4 z5 z6 z7 z8;clear hHeld;refine hK.out _ _ ⟨(qaB C.out).2.1,qaa C.out HBM.out 0 rfl,qaa C.out HBM.out 1 rfl,qaa C.out HBM.out 2 rfl,qaa C.out HBM.out 3 rfl,qaa C.out HBM.out 4 rfl,qaa C.out HBM.out 5 rfl,qaa C.out HBM.out 6 rfl,qaa C.out HBM.out 7 rfl,qaa C.out HBM.out 8 rfl,B_f.out.cell 0,B_f.out.cell 2⟩ (fun hHeld=>?_)
 clear hK K;try simp only[Act.put,aP1,aP2,aP3]
 refine E_t 19 8 ?_;refine E_t 20 9 ?_;refine E_t 21 10 ?_;refine qaE (by kernel_rfl) (by rfl) ?_
 go_wp2;go_meet
 exact⟨_,mr,col6,rfl,rfl,rfl,rfl,B_s,K_s,C,G,BL⟩) : P := h
section
theorem qo3{w:Wd}{i:Nat}{s:St}{f:FyM}(h1:qhH w f.to_=(i:Int))(h2:qeO w i=false)(h3:qeM w i=s)(h:(qc6 w f.v).2=true):(qal s f.fr f.bs).2=0∧(qc6 w f.v).1=qh7 (qiI w i (qal s f.fr f.bs).1.s) i (qal s f.fr f.bs).1.pk (qal s f.fr f.bs).1.dl:=by
 have e:qc6 w f.v=if (qal s f.fr f.bs).2≠0 then (w,false) else (qh7 (qiI w i (qal s f.fr f.bs).1.s) i (qal s f.fr f.bs).1.pk (qal s f.fr f.bs).1.dl,true):=by
  unfold qc6
  rw[show f.v.2.1=f.to_ from rfl,h1]
  simp only[Int.toNat_natCast,h2,h3]
  rw[if_neg (by simp)];rfl
 rw[e] at h⊢
 split at h
 ·cases h
 ·next hn=>
  rw[if_neg hn]
  exact⟨by simpa using hn,rfl⟩
end
set_option maxHeartbeats 2000000 in
theorem qj8(m:WM)(B:Nat)(col:Nat→Nat)(p k:Nat)(w:World)(h:WS w B col p m)(hk:k<m.fly.length)(hn:m.fly.length≤400)(hm:m.mem.length≤1000)(hd:m.down.length=m.mem.length)(ht:m.told.length=m.mem.length)(htl:∀t∈m.told,t.l.length≤100000)
  (hfl:∀f∈m.fly,f.bs.length≤1000000) (hok:(qc6 m.wd (qcw m.wd k)).2=true) (hr:(qal (qeM m.wd (qhH m.wd (qcw m.wd k).2.1).toNat) (qcw m.wd k).1 (qcw m.wd k).2.2).1.pk.length≤100000∧(qal (qeM m.wd (qhH m.wd (qcw m.wd k).2.1).toNat) (qcw m.wd k).1 (qcw m.wd k).2.2).1.dl.length≤100000) :
  Calls Tryz.prog 103 #[.pointer (some (Pq p 0)),Jq (k:Int)] w (qjK B p w (.bool true) (qc6 m.wd (qcw m.wd k)).1):=by
 obtain⟨Av,cv,vs,Am,cm,mem,Ad,cd,down,At,ct,told,As,cs,sent,Af,cf,fly⟩:=m
 simp only at hk hn hm hd ht htl hfl
 obtain⟨gf,f,hAf,hf,cf0,cf1,cf2⟩:=qs4 h.fly hk
 simp only at hAf hf
 subst hAf
 have hfv:qcw (⟨Av,cv,vs,Am,cm,mem,Ad,cd,down,At,ct,told,As,cs,sent,some (Pq gf 0),cf,fly⟩:WM).wd k=f.v:=by unfold qcw WM.wd;simp only[List.getElem?_map,hf];rfl
 rw[hfv] at hok hr⊢
 have hfb:=hfl f (List.mem_of_getElem? hf)
 have HFC:=hJ (h.fly.inn f (List.mem_of_getElem? hf)).1.1
 have HFM:=hJ hf
 clear hfv hfl hf;have XX:Hid (Ext w (w.alloc (.cells #[Jq f.fr,Jq f.to_,.slice f.A f.bs.length f.c] 137))):=hJ (Ext.new _ _)
 have B_f:Hid (BIs (w.alloc (.cells #[Jq f.fr,Jq f.to_,.slice f.A f.bs.length f.c] 137)) w.heap.size #[Jq f.fr,Jq f.to_,.slice f.A f.bs.length f.c] 137):=hJ (BIs.new _ _ _)
 have K_f:Hid (qdg col w.heap.size 8 w.heap.size=8):=hJ qch
 have C:=hJ (h.keepB (Stp.ext (cs:=[]) h.Bsz XX.out (fun k hk=>if_neg (by omega)):Stp B [] col w (qdg col w.heap.size 8) (w.alloc (.cells #[Jq f.fr,Jq f.to_,.slice f.A f.bs.length f.c] 137))) (by decide) (qoD h.z (by simp)))
 have BL:Hid (Below B w (w.alloc (.cells #[Jq f.fr,Jq f.to_,.slice f.A f.bs.length f.c] 137))):=hJ (XX.out.mono h.Bsz)
 have q5:w.cell? (Pq p 5)=some (.slice (some (Pq gf 0)) fly.length cf):=(qaB h).2.2.2.2.2
 clear h XX;go_enter Tryz.func103,Tryz.ntmps103
 go_upto_region 2 with fail
 generalize (w.alloc (.cells #[Jq f.fr,Jq f.to_,.slice f.A f.bs.length f.c] 137))=u1 at *
 generalize qdg col w.heap.size 8=col1 at *
 generalize w.heap.size=r_f at *
 clear q5 cf0 cf1 cf2;have q1:u1.cell? (Pq r_f 1)=some (Jq f.to_):=B_f.out.cell 1
 rcases qgt f.to_ (mem.map BM.st) 0 with ⟨hix,_⟩|⟨i,s,hix,hi,hs9⟩
 ·have HI:Hid (qhH (⟨Av,cv,vs,Am,cm,mem,Ad,cd,down,At,ct,told,As,cs,sent,some (Pq gf 0),cf,fly⟩:WM).wd f.to_ = -1):=hJ hix
  clear hix;go_wp2_with fail
  go_at_call 33;refine(qcs ⟨Av,cv,vs,Am,cm,mem,Ad,cd,down,At,ct,told,As,cs,sent,some (Pq gf 0),cf,fly⟩ B col1 p f.to_ _ C.out (by simp only;omega)).mono ?_
  rintro en wx ⟨rfl,rfl⟩
  rw[HI.out]
  go_wp2;go_ret
  refine⟨_,col1,rfl,C.out,?_,BL.out⟩
  unfold qc6
  rw[show f.v.2.1=f.to_ from rfl,HI.out]
  rfl
 have HI:Hid (qhH (⟨Av,cv,vs,Am,cm,mem,Ad,cd,down,At,ct,told,As,cs,sent,some (Pq gf 0),cf,fly⟩:WM).wd f.to_=(i:Int)):=hJ (by rw[Nat.zero_add] at hix;exact hix)
 have him:i<mem.length:=by have:=(List.getElem?_eq_some_iff.1 hi).1;simpa using this
 clear hix hi hs9 s;obtain⟨gm,b,hAm,_,_,_,hb,e0,e1,e2,e3,e4,e5,e6,e7,e8⟩:=qf3 C.out.mem him
 simp only at hAm hb
 subst hAm
 have HMW:Hid (qeM (⟨Av,cv,vs,some (Pq gm 0),cm,mem,Ad,cd,down,At,ct,told,As,cs,sent,some (Pq gf 0),cf,fly⟩:WM).wd i=b.st):=hJ (qe7 hb)
 obtain⟨gd,d,hAd,hdn,cd0,_⟩:=qjU C.out.down (i:=i) (by simp only;omega)
 simp only at hAd hdn
 subst hAd
 have HDW:Hid (qeO (⟨Av,cv,vs,some (Pq gm 0),cm,mem,some (Pq gd 0),cd,down,At,ct,told,As,cs,sent,some (Pq gf 0),cf,fly⟩:WM).wd i=d):=hJ (qk9 hdn)
 obtain⟨y0,y1,y2,y3,y4,y5⟩:=qaB C.out
 clear y0 y3 y4 y5;simp only at y1 y2
 have HBM:=hJ hb
 clear hb hdn;cases d with
 | true=>
  go_wp2_with (first|(go_at_call 33;refine(qcs ⟨Av,cv,vs,some (Pq gm 0),cm,mem,some (Pq gd 0),cd,down,At,ct,told,As,cs,sent,some (Pq gf 0),cf,fly⟩ B col1 p f.to_ _ C.out (by simp only;omega)).mono ?_;rintro en wx ⟨rfl,rfl⟩;rw[HI.out]))
  go_ret
  refine⟨_,col1,rfl,C.out,?_,BL.out⟩
  unfold qc6
  simp only[show f.v.2.1=f.to_ from rfl,HI.out,Int.toNat_natCast,HDW.out,or_true,if_true]
 | false=>
  have HW:Hid ((qal b.st f.fr f.bs).2=0∧(qc6 (⟨Av,cv,vs,some (Pq gm 0),cm,mem,some (Pq gd 0),cd,down,At,ct,told,As,cs,sent,some (Pq gf 0),cf,fly⟩:WM).wd f.v).1=qh7 (qiI (⟨Av,cv,vs,some (Pq gm 0),cm,mem,some (Pq gd 0),cd,down,At,ct,told,As,cs,sent,some (Pq gf 0),cf,fly⟩:WM).wd i (qal b.st f.fr f.bs).1.s) i (qal b.st f.fr f.bs).1.pk (qal b.st f.fr f.bs).1.dl):=hJ (qo3 HI.out HDW.out HMW.out hok)
  have HRL:Hid ((qal b.st f.fr f.bs).1.pk.length≤100000∧(qal b.st f.fr f.bs).1.dl.length≤100000):=hJ (by have:=hr;rw[show f.v.2.1=f.to_ from rfl,HI.out,Int.toNat_natCast,HMW.out] at this;exact this)
  clear hok hr;go_upto_region 5 with (first|(go_at_call 33;refine(qcs ⟨Av,cv,vs,some (Pq gm 0),cm,mem,some (Pq gd 0),cd,down,At,ct,told,As,cs,sent,some (Pq gf 0),cf,fly⟩ B col1 p f.to_ _ C.out (by simp only;omega)).mono ?_;rintro en wx ⟨rfl,rfl⟩;rw[HI.out]))
  clear e0 e1 e2 e3 e4 e5 e6 e7 e8 cd0 y1 y2 q1;go_cut [7,8,9,10] (fun s7 s8 s9 s10 wx=>∃(rs:Nat) (mr:CM) (colx:Nat→Nat),s7=.pointer (some (Pq rs 0))∧s8=.slice mr.Ak mr.pk.length mr.ck∧s9=.slice mr.Ad mr.dl.length mr.cd∧s10=Jq (qal b.st f.fr f.bs).2∧Hid (BIs wx rs mr.b.cells 28)∧Hid (colx rs=9)∧Hid (WS wx B colx p ⟨Av,cv,vs,some (Pq gm 0),cm,mem,some (Pq gd 0),cd,down,At,ct,told,As,cs,sent,some (Pq gf 0),cf,fly⟩)∧Hid (GotC wx colx (qal b.st f.fr f.bs).1 mr)∧Hid (Below B w wx))
  case first=>
   refine qac 22 (fun w'=>Cq w' p 1 (.slice (some (Pq gm 0)) mem.length cm)∧Cq w' gm (i*9) (Jq b.self)∧Cq w' gm (i*9+1) (.slice b.Av b.vs.length b.cv)∧Cq w' gm (i*9+2) (Jq b.base)∧Cq w' gm (i*9+3) (.slice b.Al b.log.length b.cl)∧Cq w' gm (i*9+4) (Jq b.stable)∧Cq w' gm (i*9+5) (Jq b.sent)∧Cq w' gm (i*9+6) (.slice b.Ap b.pend.length b.cp)∧Cq w' gm (i*9+7) (.slice b.Am b.marks.length b.cm)∧Cq w' gm (i*9+8) (.slice b.Af b.fls.length b.cf)∧Cq w' r_f 0 (Jq f.fr)∧Cq w' r_f 2 (.slice f.A f.bs.length f.c)) (by kernel_rfl) ⟨(qaB (C.out.ext Ext.drew1)).2.1,qaa (C.out.ext Ext.drew1) HBM.out 0 rfl,qaa (C.out.ext Ext.drew1) HBM.out 1 rfl,qaa (C.out.ext Ext.drew1) HBM.out 2 rfl,qaa (C.out.ext Ext.drew1) HBM.out 3 rfl,qaa (C.out.ext Ext.drew1) HBM.out 4 rfl,qaa (C.out.ext Ext.drew1) HBM.out 5 rfl,qaa (C.out.ext Ext.drew1) HBM.out 6 rfl,qaa (C.out.ext Ext.drew1) HBM.out 7 rfl,qaa (C.out.ext Ext.drew1) HBM.out 8 rfl,(B_f.out.ext Ext.drew1).cell 0,(B_f.out.ext Ext.drew1).cell 2⟩ (fun hHeld=>?_)
   have XD:Hid (Ext u1 u1.drew):=hJ Ext.drew1
   have ST:=hJ (Stp.ext' (B:=B) (cs:=[]) (col:=col1) C.out.Bsz XD.out)
   replace BL:=hJ (BL.out.trans ST.out.below)
   replace C:=hJ (C.out.keepB ST.out (by decide) (fun k hk=>C.out.z k (Nat.le_trans (XD.out).size hk)))
   replace K_f:=hJ ((ST.out.hue _ B_f.out.lt).trans K_f.out)
   replace B_f:=hJ (ST.out.bis B_f.out (by rw[←ST.out.hue _ B_f.out.lt,K_f.out];decide))
   clear ST;clear XD;generalize u1.drew=u2 at *
   refine E_t 0 34 ?_;refine E_t 1 35 ?_;refine E_t 2 36 ?_;refine E_t 3 37 ?_;refine E_t 4 38 ?_;refine E_t 5 39 ?_;refine E_t 6 40 ?_;refine E_t 7 41 ?_;refine E_t 8 42 ?_;refine E_t 9 43 ?_;refine E_t 10 44 ?_;refine qc3 [11,17] (by kernel_rfl) (by simp) ?_
   refine(AllE.cons (o:=⟨some 45,_,_,_,_,_⟩) rfl (fun K hK=>?_) (AllE.cons (o:=⟨some 7,_,_,_,_,_⟩) rfl (fun K hK=>?_) AllE.nil))
   ·go_simp
    go_at_call 16;refine(qeY b f.fr f.A f.c f.bs _ (C.out.reads HBM.out).1 (C.out.reads HBM.out).2 ((C.out.fly.inn f (List.mem_of_getElem? HFM.out)).2 (f.A,qad f.bs) (by simp[qgj])).1 HFC.out hfb).mono ?_
    rintro en w3 ⟨mr,rfl,hcs,hrd,hft,hpk,hdl,hx,hnw,hnd,hpn⟩
    have G:=hJ (qnV hcs hrd hft hpk hdl hnw hnd hpn C.out.z)
    clear hcs hrd hft hpk hdl hnw hnd hpn;have ST:=hJ (Stp.ext' (B:=B) (cs:=[]) (col:=col1) C.out.Bsz hx)
    replace BL:=hJ (BL.out.trans ST.out.below)
    replace C:=hJ (C.out.keepB ST.out (by decide) (fun k hk=>C.out.z k (Nat.le_trans (hx).size hk)))
    replace K_f:=hJ ((ST.out.hue _ B_f.out.lt).trans K_f.out)
    replace B_f:=hJ (ST.out.bis B_f.out (by rw[←ST.out.hue _ B_f.out.lt,K_f.out];decide))
    clear ST;clear hx;clear hHeld;refine hK.out _ _ ⟨(qaB C.out).2.1,qaa C.out HBM.out 0 rfl,qaa C.out HBM.out 1 rfl,qaa C.out HBM.out 2 rfl,qaa C.out HBM.out 3 rfl,qaa C.out HBM.out 4 rfl,qaa C.out HBM.out 5 rfl,qaa C.out HBM.out 6 rfl,qaa C.out HBM.out 7 rfl,qaa C.out HBM.out 8 rfl,B_f.out.cell 0,B_f.out.cell 2⟩ (fun hHeld=>?_)
    clear hK K;try simp only[Act.put,aP1,aP2,aP3]
    refine E_t 12 33 ?_;refine E_t 13 46 ?_;refine E_t 14 47 ?_;refine E_t 15 48 ?_;refine E_t 16 49 ?_;refine E_r 17 (some 7) fun K hK=>?_
    go_simp;have ST:Hid (Stp B [] col1 w3 (qdg col1 w3.heap.size 9) (w3.alloc (.cells Yq 28))):=hJ (Stp.newBox C.out.Bsz)
    have B_s:Hid (BIs (w3.alloc (.cells Yq 28)) w3.heap.size Yq 28):=hJ (BIs.new _ _ _)
    have K_s:Hid ((qdg col1 w3.heap.size 9) w3.heap.size=9):=hJ qch
    have HBr:Hid (B≤w3.heap.size):=hJ C.out.Bsz
    replace BL:=hJ (BL.out.trans ST.out.below)
    replace C:=hJ (C.out.keepB ST.out (by decide) (qej C.out.z))
    replace K_f:=hJ ((ST.out.hue _ B_f.out.lt).trans K_f.out)
    replace B_f:=hJ (ST.out.bis B_f.out (by rw[←ST.out.hue _ B_f.out.lt,K_f.out];decide))
    replace G:=hJ (G.out.keep ST.out (by decide))
    clear ST;generalize (qdg col1 w3.heap.size 9)=col6 at *
    generalize (w3.alloc (.cells Yq 28))=u6 at *
    generalize w3.heap.size=r_s at *
    have Q_s:=HBr
    clear HBr;clear hHeld;refine hK.out _ _ ⟨(qaB C.out).2.1,qaa C.out HBM.out 0 rfl,qaa C.out HBM.out 1 rfl,qaa C.out HBM.out 2 rfl,qaa C.out HBM.out 3 rfl,qaa C.out HBM.out 4 rfl,qaa C.out HBM.out 5 rfl,qaa C.out HBM.out 6 rfl,qaa C.out HBM.out 7 rfl,qaa C.out HBM.out 8 rfl,B_f.out.cell 0,B_f.out.cell 2⟩ (fun hHeld=>?_)
    clear hK K;try simp only[Act.put,aP1,aP2,aP3]
    refine E_r 18 none fun K hK=>?_
    obtain⟨y0,y1,y2,y3,y4,y5,y6,y7,y8⟩:=qbC B_s.out
    obtain⟨z0,z1,z2,z3,z4,z5,z6,z7,z8⟩:=B_s.out.free9
    go_simp;have ST:Hid (Stp B [9] col6 u6 col6 (((((((((u6.setCell (Pq r_s 0) (Jq mr.b.self)).setCell (Pq r_s 1) (.slice mr.b.Av mr.b.vs.length mr.b.cv)).setCell (Pq r_s 2) (Jq mr.b.base)).setCell (Pq r_s 3) (.slice mr.b.Al mr.b.log.length mr.b.cl)).setCell (Pq r_s 4) (Jq mr.b.stable)).setCell (Pq r_s 5) (Jq mr.b.sent)).setCell (Pq r_s 6) (.slice mr.b.Ap mr.b.pend.length mr.b.cp)).setCell (Pq r_s 7) (.slice mr.b.Am mr.b.marks.length mr.b.cm)).setCell (Pq r_s 8) (.slice mr.b.Af mr.b.fls.length mr.b.cf))):=hJ (Stp.wrote qak Q_s.out C.out.Bsz (by rw[K_s.out];decide))
    have BN:Hid (BIs (((((((((u6.setCell (Pq r_s 0) (Jq mr.b.self)).setCell (Pq r_s 1) (.slice mr.b.Av mr.b.vs.length mr.b.cv)).setCell (Pq r_s 2) (Jq mr.b.base)).setCell (Pq r_s 3) (.slice mr.b.Al mr.b.log.length mr.b.cl)).setCell (Pq r_s 4) (Jq mr.b.stable)).setCell (Pq r_s 5) (Jq mr.b.sent)).setCell (Pq r_s 6) (.slice mr.b.Ap mr.b.pend.length mr.b.cp)).setCell (Pq r_s 7) (.slice mr.b.Am mr.b.marks.length mr.b.cm)).setCell (Pq r_s 8) (.slice mr.b.Af mr.b.fls.length mr.b.cf)) r_s mr.b.cells 28):=hJ (qaJ B_s.out)
    clear B_s;have B_s:=BN
    clear BN;replace BL:=hJ (BL.out.trans ST.out.below)
    replace C:=hJ (C.out.keepB ST.out (by decide) (fun k hk=>C.out.z k (Nat.le_trans qak.size hk)))
    replace K_f:=hJ ((ST.out.hue _ B_f.out.lt).trans K_f.out)
    replace B_f:=hJ (ST.out.bis B_f.out (by rw[←ST.out.hue _ B_f.out.lt,K_f.out];decide))
    replace G:=hJ (G.out.keep ST.out (by decide))
    clear ST;generalize (((((((((u6.setCell (Pq r_s 0) (Jq mr.b.self)).setCell (Pq r_s 1) (.slice mr.b.Av mr.b.vs.length mr.b.cv)).setCell (Pq r_s 2) (Jq mr.b.base)).setCell (Pq r_s 3) (.slice mr.b.Al mr.b.log.length mr.b.cl)).setCell (Pq r_s 4) (Jq mr.b.stable)).setCell (Pq r_s 5) (Jq mr.b.sent)).setCell (Pq r_s 6) (.slice mr.b.Ap mr.b.pend.length mr.b.cp)).setCell (Pq r_s 7) (.slice mr.b.Am mr.b.marks.length mr.b.cm)).setCell (Pq r_s 8) (.slice mr.b.Af mr.b.fls.length mr.b.cf))=u7 at *
    exact qqp
   ·go_simp
    have ST:Hid (Stp B [] col1 u2 (qdg col1 u2.heap.size 9) (u2.alloc (.cells Yq 28))):=hJ (Stp.newBox C.out.Bsz)
    have B_s:Hid (BIs (u2.alloc (.cells Yq 28)) u2.heap.size Yq 28):=hJ (BIs.new _ _ _)
    have K_s:Hid ((qdg col1 u2.heap.size 9) u2.heap.size=9):=hJ qch
    have HBr:Hid (B≤u2.heap.size):=hJ C.out.Bsz
    replace BL:=hJ (BL.out.trans ST.out.below)
    replace C:=hJ (C.out.keepB ST.out (by decide) (qej C.out.z))
    replace K_f:=hJ ((ST.out.hue _ B_f.out.lt).trans K_f.out)
    replace B_f:=hJ (ST.out.bis B_f.out (by rw[←ST.out.hue _ B_f.out.lt,K_f.out];decide))
    clear ST;generalize (qdg col1 u2.heap.size 9)=col6 at *
    generalize (u2.alloc (.cells Yq 28))=u6 at *
    generalize u2.heap.size=r_s at *
    have Q_s:=HBr
    clear HBr;clear hHeld;refine hK.out _ _ ⟨(qaB C.out).2.1,qaa C.out HBM.out 0 rfl,qaa C.out HBM.out 1 rfl,qaa C.out HBM.out 2 rfl,qaa C.out HBM.out 3 rfl,qaa C.out HBM.out 4 rfl,qaa C.out HBM.out 5 rfl,qaa C.out HBM.out 6 rfl,qaa C.out HBM.out 7 rfl,qaa C.out HBM.out 8 rfl,B_f.out.cell 0,B_f.out.cell 2⟩ (fun hHeld=>?_)
    clear hK K;try simp only[Act.put,aP1,aP2,aP3]
    refine E_r 11 (some 45) fun K hK=>?_
    go_simp;go_at_call 16;refine(qeY b f.fr f.A f.c f.bs _ (C.out.reads HBM.out).1 (C.out.reads HBM.out).2 ((C.out.fly.inn f (List.mem_of_getElem? HFM.out)).2 (f.A,qad f.bs) (by simp[qgj])).1 HFC.out hfb).mono ?_
    rintro en w3 ⟨mr,rfl,hcs,hrd,hft,hpk,hdl,hx,hnw,hnd,hpn⟩
    have G:=hJ (qnV hcs hrd hft hpk hdl hnw hnd hpn C.out.z)
    clear hcs hrd hft hpk hdl hnw hnd hpn;have ST:=hJ (Stp.ext' (B:=B) (cs:=[]) (col:=col6) C.out.Bsz hx)
    replace BL:=hJ (BL.out.trans ST.out.below)
    replace C:=hJ (C.out.keepB ST.out (by decide) (fun k hk=>C.out.z k (Nat.le_trans (hx).size hk)))
    replace K_f:=hJ ((ST.out.hue _ B_f.out.lt).trans K_f.out)
    replace B_f:=hJ (ST.out.bis B_f.out (by rw[←ST.out.hue _ B_f.out.lt,K_f.out];decide))
    replace K_s:=hJ ((ST.out.hue _ B_s.out.lt).trans K_s.out)
    replace B_s:=hJ (ST.out.bis B_s.out (by rw[←ST.out.hue _ B_s.out.lt,K_s.out];decide))
    clear ST;clear hx;clear hHeld;refine hK.out _ _ ⟨(qaB C.out).2.1,qaa C.out HBM.out 0 rfl,qaa C.out HBM.out 1 rfl,qaa C.out HBM.out 2 rfl,qaa C.out HBM.out 3 rfl,qaa C.out HBM.out 4 rfl,qaa C.out HBM.out 5 rfl,qaa C.out HBM.out 6 rfl,qaa C.out HBM.out 7 rfl,qaa C.out HBM.out 8 rfl,B_f.out.cell 0,B_f.out.cell 2⟩ (fun hHeld=>?_)
    clear hK K;try simp only[Act.put,aP1,aP2,aP3]
    refine E_t 12 33 ?_;refine E_t 13 46 ?_;refine E_t 14 47 ?_;refine E_t 15 48 ?_;refine E_t 16 49 ?_;refine E_r 18 none fun K hK=>?_
    obtain⟨y0,y1,y2,y3,y4,y5,y6,y7,y8⟩:=qbC B_s.out
    obtain⟨z0,z1,z2,z3,z4,z5,z6,z7,z8⟩:=B_s.out.free9
    go_simp;have ST:Hid (Stp B [9] col6 w3 col6 (((((((((w3.setCell (Pq r_s 0) (Jq mr.b.self)).setCell (Pq r_s 1) (.slice mr.b.Av mr.b.vs.length mr.b.cv)).setCell (Pq r_s 2) (Jq mr.b.base)).setCell (Pq r_s 3) (.slice mr.b.Al mr.b.log.length mr.b.cl)).setCell (Pq r_s 4) (Jq mr.b.stable)).setCell (Pq r_s 5) (Jq mr.b.sent)).setCell (Pq r_s 6) (.slice mr.b.Ap mr.b.pend.length mr.b.cp)).setCell (Pq r_s 7) (.slice mr.b.Am mr.b.marks.length mr.b.cm)).setCell (Pq r_s 8) (.slice mr.b.Af mr.b.fls.length mr.b.cf))):=hJ (Stp.wrote qak Q_s.out C.out.Bsz (by rw[K_s.out];decide))
    have BN:Hid (BIs (((((((((w3.setCell (Pq r_s 0) (Jq mr.b.self)).setCell (Pq r_s 1) (.slice mr.b.Av mr.b.vs.length mr.b.cv)).setCell (Pq r_s 2) (Jq mr.b.base)).setCell (Pq r_s 3) (.slice mr.b.Al mr.b.log.length mr.b.cl)).setCell (Pq r_s 4) (Jq mr.b.stable)).setCell (Pq r_s 5) (Jq mr.b.sent)).setCell (Pq r_s 6) (.slice mr.b.Ap mr.b.pend.length mr.b.cp)).setCell (Pq r_s 7) (.slice mr.b.Am mr.b.marks.length mr.b.cm)).setCell (Pq r_s 8) (.slice mr.b.Af mr.b.fls.length mr.b.cf)) r_s mr.b.cells 28):=hJ (qaJ B_s.out)
    clear B_s;have B_s:=BN
    clear BN;replace BL:=hJ (BL.out.trans ST.out.below)
    replace C:=hJ (C.out.keepB ST.out (by decide) (fun k hk=>C.out.z k (Nat.le_trans qak.size hk)))
    replace K_f:=hJ ((ST.out.hue _ B_f.out.lt).trans K_f.out)
    replace B_f:=hJ (ST.out.bis B_f.out (by rw[←ST.out.hue _ B_f.out.lt,K_f.out];decide))
    replace G:=hJ (G.out.keep ST.out (by decide))
    clear ST;generalize (((((((((w3.setCell (Pq r_s 0) (Jq mr.b.self)).setCell (Pq r_s 1) (.slice mr.b.Av mr.b.vs.length mr.b.cv)).setCell (Pq r_s 2) (Jq mr.b.base)).setCell (Pq r_s 3) (.slice mr.b.Al mr.b.log.length mr.b.cl)).setCell (Pq r_s 4) (Jq mr.b.stable)).setCell (Pq r_s 5) (Jq mr.b.sent)).setCell (Pq r_s 6) (.slice mr.b.Ap mr.b.pend.length mr.b.cp)).setCell (Pq r_s 7) (.slice mr.b.Am mr.b.marks.length mr.b.cm)).setCell (Pq r_s 8) (.slice mr.b.Af mr.b.fls.length mr.b.cf))=u7 at *
    exact qqp
  case rest=>
   obtain⟨rs,mr,colx,rfl,rfl,rfl,rfl,BS,KS,CX,GX,BX⟩:=hcut
   rw[HW.out.1]
   clear C BL;go_upto_region 8 with fail
   refine qac 6 (fun w'=>Cq w' p 1 (.slice (some (Pq gm 0)) mem.length cm)∧Cq w' rs 0 (Jq mr.b.self)∧Cq w' rs 1 (.slice mr.b.Av mr.b.vs.length mr.b.cv)∧Cq w' rs 2 (Jq mr.b.base)∧Cq w' rs 3 (.slice mr.b.Al mr.b.log.length mr.b.cl)∧Cq w' rs 4 (Jq mr.b.stable)∧Cq w' rs 5 (Jq mr.b.sent)∧Cq w' rs 6 (.slice mr.b.Ap mr.b.pend.length mr.b.cp)∧Cq w' rs 7 (.slice mr.b.Am mr.b.marks.length mr.b.cm)∧Cq w' rs 8 (.slice mr.b.Af mr.b.fls.length mr.b.cf)) (by kernel_rfl) ⟨(qaB (CX.out.ext Ext.drew1)).2.1,(BS.out.ext Ext.drew1).cell 0,(BS.out.ext Ext.drew1).cell 1,(BS.out.ext Ext.drew1).cell 2,(BS.out.ext Ext.drew1).cell 3,(BS.out.ext Ext.drew1).cell 4,(BS.out.ext Ext.drew1).cell 5,(BS.out.ext Ext.drew1).cell 6,(BS.out.ext Ext.drew1).cell 7,(BS.out.ext Ext.drew1).cell 8⟩ (fun hHeld=>?_)
   have XD:Hid (Ext wc wc.drew):=hJ Ext.drew1
   replace BX:=hJ (BX.out.trans (XD.out.mono CX.out.Bsz))
   replace GX:=hJ (GX.out.keep (Stp.ext' (B:=B) (cs:=[]) CX.out.Bsz XD.out) (by decide))
   replace BS:=hJ (BS.out.ext XD.out)
   replace CX:=hJ (CX.out.ext XD.out)
   clear XD;generalize wc.drew=u8 at *
   refine E_t 0 52 ?_;refine E_t 1 53 ?_;refine E_t 2 54 ?_;refine E_t 3 55 ?_;refine E_t 4 56 ?_;refine E_t 5 57 ?_;refine qbc (by rfl) (by kernel_rfl) ?_
   obtain⟨k0,k1,k2,k3,k4,k5,k6,k7,k8⟩:u8.cell? (Pq gm (i*9))=some (Jq b.self)∧u8.cell? (Pq gm (i*9+1))=some (.slice b.Av b.vs.length b.cv)∧u8.cell? (Pq gm (i*9+2))=some (Jq b.base)∧u8.cell? (Pq gm (i*9+3))=some (.slice b.Al b.log.length b.cl)∧u8.cell? (Pq gm (i*9+4))=some (Jq b.stable)∧u8.cell? (Pq gm (i*9+5))=some (Jq b.sent)∧u8.cell? (Pq gm (i*9+6))=some (.slice b.Ap b.pend.length b.cp)∧u8.cell? (Pq gm (i*9+7))=some (.slice b.Am b.marks.length b.cm)∧u8.cell? (Pq gm (i*9+8))=some (.slice b.Af b.fls.length b.cf):=⟨qaa CX.out HBM.out 0 rfl,qaa CX.out HBM.out 1 rfl,qaa CX.out HBM.out 2 rfl,qaa CX.out HBM.out 3 rfl,qaa CX.out HBM.out 4 rfl,qaa CX.out HBM.out 5 rfl,qaa CX.out HBM.out 6 rfl,qaa CX.out HBM.out 7 rfl,qaa CX.out HBM.out 8 rfl⟩
   have fz:=qgq CX.out him
   go_upto_region 9 with fail
   obtain⟨ws9,st9⟩:=CX.out.put_mem (b:=mr.b) rfl him GX.out.rd
   have e9:qfS u8 gm (i*qb8.k) (qb8.f mr.b)=(((((((((u8.setCell (Pq gm (i*9)) (Jq mr.b.self)).setCell (Pq gm (i*9+1)) (.slice mr.b.Av mr.b.vs.length mr.b.cv)).setCell (Pq gm (i*9+2)) (Jq mr.b.base)).setCell (Pq gm (i*9+3)) (.slice mr.b.Al mr.b.log.length mr.b.cl)).setCell (Pq gm (i*9+4)) (Jq mr.b.stable)).setCell (Pq gm (i*9+5)) (Jq mr.b.sent)).setCell (Pq gm (i*9+6)) (.slice mr.b.Ap mr.b.pend.length mr.b.cp)).setCell (Pq gm (i*9+7)) (.slice mr.b.Am mr.b.marks.length mr.b.cm)).setCell (Pq gm (i*9+8)) (.slice mr.b.Af mr.b.fls.length mr.b.cf)):=rfl
   rw[e9] at ws9 st9
   clear e9 k0 k1 k2 k3 k4 k5 k6 k7 k8 fz;have C9:=hJ ws9;have G9:=hJ (GX.out.keep st9 (by decide));have BL9:=hJ (BX.out.trans st9.below)
   clear ws9 st9 CX GX BX BS KS;generalize (((((((((u8.setCell (Pq gm (i*9)) (Jq mr.b.self)).setCell (Pq gm (i*9+1)) (.slice mr.b.Av mr.b.vs.length mr.b.cv)).setCell (Pq gm (i*9+2)) (Jq mr.b.base)).setCell (Pq gm (i*9+3)) (.slice mr.b.Al mr.b.log.length mr.b.cl)).setCell (Pq gm (i*9+4)) (Jq mr.b.stable)).setCell (Pq gm (i*9+5)) (Jq mr.b.sent)).setCell (Pq gm (i*9+6)) (.slice mr.b.Ap mr.b.pend.length mr.b.cp)).setCell (Pq gm (i*9+7)) (.slice mr.b.Am mr.b.marks.length mr.b.cm)).setCell (Pq gm (i*9+8)) (.slice mr.b.Af mr.b.fls.length mr.b.cf))=u9 at *
   have HPL:Hid (mr.pk.length≤100000∧mr.dl.length≤100000):=hJ (by have h1:=HRL.out;have h2:=G9.out.len;omega)
   go_wp2_with (first|(go_at_call 99;refine(qlo ⟨Av,cv,vs,some (Pq gm 0),cm,mem.set i mr.b,some (Pq gd 0),cd,down,At,ct,told,As,cs,sent,some (Pq gf 0),cf,fly⟩ B colx p i mr.Ak mr.ck mr.pk mr.Ad mr.cd mr.dl _ C9.out (by simp only[List.length_set];exact him) (by simp only;omega) G9.out.pk G9.out.dl.1 (by simp only;omega) HPL.out.1 htl HPL.out.2).mono ?_;rintro en w10 ⟨m10,col10,rfl,ws10,hwd,bl10⟩;have C10:=hJ ws10;have HD10:=hJ hwd;have BL10:=hJ (BL9.out.trans bl10);clear ws10 hwd bl10))
   go_ret
   refine⟨m10,col10,rfl,C10.out,?_,BL10.out⟩
   rw[HD10.out,HW.out.2,←G9.out.cs]
   simp only[WM.wd,qiI,List.map_set]
   rfl
end Go.Proofs.YtponbabbabnaeaaGreat
namespace Go.Proofs.YtponbabbabnaeaaGreat
open Go.RowKit Go.Lib
theorem qfk(g:Nat):∀(vs:List Value) (w:World) (k:Nat),w.setCells g k vs=qfS w g k vs
 | [],_,_=>rfl
 | _::vs,w,k=>qfk g vs (w.setCell ⟨g,k,none⟩ _) (k+1)
theorem qgk{ops:Array Oper}{o:Oper}{a:Act}{K:Act→World→Prop}{Q:Exit→Act→World→Prop}{X:Prop}(hgd:o.guard=none)(t:TypeId)(ie:TypeInfo)(hie:Tryz.prog.info? t=some ie)(pa pv:Operand)
  (ho:o.op=.store t pa pv) (W:World) (g k:Nat) (hpa:a.eval pa=.pointer (some (Pq g k))) (vs:List Value) (hpv:a.eval pv=.agg vs.toArray) (hs:vs.length=ie.size) (h1:∀v∈vs,v.oneCell'=true)
  (hc:∀j,j<vs.length→(W.cell? (Pq g (k+j))).isSome=true) (hf:∀j,j<vs.length→W.frozen? (Pq g (k+j))=false)
  (h:K (a.put o.dst undef) (qfS W g k vs)):if Region.wanted o (yielded ops a.tmps)=true then Oper.wp Tryz.prog o a W K Q else X:=by
 have hw:Region.wanted o (yielded ops a.tmps)=true:=by simp[Region.wanted,hgd]
 rw[if_pos hw]
 have hrun:=Go.Lib.rl_storeVar_cells (P:=Tryz.prog) t ie hie g k vs hs h1 W hc hf
 rw[qfk] at hrun
 unfold Oper.wp execOp
 simp only[ho,hpa,hpv,Instr.storeAt,Sem.run_bind,Sem.run_pure]
 rw[show (Instr.sureAddr (Value.pointer (some {block:=g,off:=k}))).run Tryz.prog W=.ok ⟨g,k,none⟩ W from rfl]
 simp only[Result.andThen_ok,hrun]
 exact h
theorem qef{α:Type}{ops:Array Oper}{o:Oper}{a:Act}{K:Act→World→Prop}{Q:Exit→Act→World→Prop}{X:Prop}(E:Elem α)(hgd:o.guard=none)(pa pv:Operand)
  (ho:o.op=.store E.ty pa pv) (W:World) (g k:Nat) (hpa:a.eval pa=.pointer (some (Pq g k))) (x:α) (hpv:a.eval pv=.agg (E.f x).toArray)
  (hc:∀j,j<E.k→(W.cell? (Pq g (k+j))).isSome=true) (hf:∀j,j<E.k→W.frozen? (Pq g (k+j))=false)
  (h:K (a.put o.dst undef) (qfS W g k (E.f x))):if Region.wanted o (yielded ops a.tmps)=true then Oper.wp Tryz.prog o a W K Q else X:=by
 obtain⟨i0,hi,_,hz,_⟩:=E.info_parts
 have hl:=E.len x
 exact qgk hgd E.ty i0 hi pa pv ho W g k hpa (E.f x) hpv (by rw[hl,hz]) (E.one x) (fun j hj=>hc j (by rw[←hl];exact hj)) (fun j hj=>hf j (by rw[←hl];exact hj)) h
end Go.Proofs.YtponbabbabnaeaaGreat
