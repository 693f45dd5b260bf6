/- Part 23 of the proof: contracts of functions that the statement reaches. Conditions: as each theorem says. -/
import Derived.Test.YtponbabbabnaeaaGreatQd01
import Derived.Test.YtponbabbabnaeaaGreatQd22
import Derived.Test.YtponbabbabnaeaaGreatQd14
import Derived.Test.YtponbabbabnaeaaGreatQd21
set_option maxRecDepth 100000
namespace Go.Proofs.YtponbabbabnaeaaGreat
open Go.RowKit
theorem qqA {P : Prop} (h : P := by
 rcases hf' with hf|rfl
 ·exact .inl hf
 ·exact .inr ⟨⟨h11,h12⟩,S34.row R3.out HC1.out (by simp),S34.colR R3.out HC1.out,hl,HLP.out⟩) : P := h
theorem qqN {P : Prop} (h : P := by
 exact((Stp.ext (cs:=[1,4]) H.out.Bsz E3.out HCOL.out).trans S34).mono (cs':=[1,2,3,4,5,7]) (by simp)) : P := h
theorem qhd{w:World}{B g c k:Nat}{l:List FlM}{x:FlM}(h:flE.Own w B (.slice (some (Pq g 0)) l.length c) l)(hx:l[k]?=some x):w.cell? (Pq g (k*3))=some (Jq x.m):=by
 obtain⟨b,off,h1,h2,h3⟩:=h.row.addr (k:=k*3) (by rw[flE.cells_len];exact Nat.mul_lt_mul_of_pos_right (List.getElem?_eq_some_iff.1 hx).1 (by decide))
 cases h1
 have:=h3 (k*3) (Jq x.m) (flE.cells_at hx 0 (by decide))
 simpa using this
theorem qkx{w:World}{B g c k:Nat}{l:List FlM}(h:flE.Own w B (.slice (some (Pq g 0)) l.length c) l)(hk:k<l.length)(i:Nat):w.frozen? (Pq g i)=false:=by
 obtain⟨g',c',hg',_,_,_,_,hfz⟩:=qgE h (by omega)
 cases hg'
 exact hfz i
theorem qqd{w:World}{B g c k:Nat}{l:List FlM}{x:FlM}(h:flE.Own w B (.slice (some (Pq g 0)) l.length c) l)(hx:l[k]?=some x):w.cell? (Pq g (k*3))=some (Jq x.m)∧w.cell? (Pq g (k*3+1))=some (Jq x.b)∧w.cell? (Pq g (k*3+2))=some (.slice x.A x.log.length x.c):=by
 have hl:=(List.getElem?_eq_some_iff.1 hx).1
 have H:∀j v,j<3→(flE.f x)[j]?=some v→w.cell? (Pq g (k*3+j))=some v:=fun j v hj hv=>by
  obtain⟨b,off,h1,h2,h3⟩:=h.row.addr (k:=k*3+j) (by rw[flE.cells_len];show k*3+j<l.length*3;omega)
  cases h1
  have:=h3 (k*3+j) v ((flE.cells_at hx j hj).trans hv)
  simpa using this
 exact⟨H 0 _ (by decide) rfl,H 1 _ (by decide) rfl,H 2 _ (by decide) rfl⟩
section
variable {B p:Nat} {cs:List Nat} {col col':Nat→Nat} {w w':World} {m:CM}
theorem CS.flput(h:CS w B col p m)(s:Stp B [1,4] col w col' w'){A:Option Addr}{c:Nat}{l:List FlM}(hb:BIs w' p ({m with b:={m.b with Af:=A,cf:=c,fls:=l}}:CM).cells 86)(ho:flE.Own w' B (.slice A l.length c) l)(hc:ColV col' 4 (.slice A l.length c))
  (hi:∀f∈l,f∈m.b.fls∨(flE.ok f∧Row w' f.A (qaz.cells f.log)∧ColR col' 0 f.A (qaz.cells f.log)∧f.log.length≤100000∧∀e∈f.log,e.p.length≤1000000)) (hn:l.length≤100000) :
  CS w' B col' p {m with b:={m.b with Af:=A,cf:=c,fls:=l}}:=by
 have hf:=h.fits
 refine⟨hb,(s.hue p h.lt).trans h.pc,h.bp,h.lies.refls s (by simp) (by simp) (by simp) (by simp) ho hc (fun f hfl=>?_),s.own h.pk h.kc (by simp),s.colV h.pk h.kc,h.kiK s (by simp),s.own h.dl h.dc (by simp),s.colV h.dl h.dc,⟨hf.vs,hf.vx,hf.log,hf.lp,hf.pend,hf.pp,hf.marks,hn,fun f hfl=>?_,hf.cl⟩,h.cp⟩
 ·rcases hi f hfl with h1|h1
  ·exact h.lies.fiK s (by simp) f h1
  ·exact⟨h1.1,h1.2.1,h1.2.2.1⟩
 ·rcases hi f hfl with h1|h1
  ·exact hf.fl f h1
  ·exact h1.2.2.2
theorem qq9{fm fb:Int}{A:Option Addr}{c:Nat}{l:List Ent}(hok:l.length≤c∧c≤maxLen)(hr:Row w A (qaz.cells l))(hcr:ColR col 0 A (qaz.cells l))(h:CS w B col p m) :
  flE.ok (⟨fm,fb,A,c,l⟩:FlM)∧∀r∈flE.inn (⟨fm,fb,A,c,l⟩:FlM),Row w r.1 r.2∧Apt (.slice m.b.Af m.b.fls.length m.b.cf) r:=by
 refine⟨hok,fun r hr'=>?_⟩
 simp only[flE,List.mem_cons,List.not_mem_nil,or_false] at hr'
 subst hr'
 exact⟨hr,fun p' q hne hp hq e=>by have h1:=hcr p' hne hp;have h2:=h.lies.fc q hq;rw[e,h1] at h2;cases h2⟩
end
set_option maxHeartbeats 1000000 in
theorem qf9(m:CM)(B:Nat)(col:Nat→Nat)(p:Nat)(fm fb:Int)(A:Option Addr)(c:Nat)(l:List Ent)(w:World)(h:CS w B col p m)(hr:Row w A (qaz.cells l))(hl:l.length≤100000)(hlp:∀e∈l,e.p.length≤1000000)(hn:m.b.fls.length≤50000) :
  Calls Tryz.prog 55 #[.pointer (some (Pq p 0)),.agg #[Jq fm,Jq fb,.slice A l.length c]] w (qhw B col p w {m.cs with s:={m.cs.s with fls:=putF m.cs.s.fls (fm,fb,l)}}):=by
 obtain⟨⟨self,base,stable,sent,Av,cv,vs,Al,cl,log,Ap,cp,pend,Am,cm,marks,Af,cf,fls⟩,Ak,ck,pk,Ad,cd,dl⟩:=m
 have hpl:=h.lt
 have H:=hJ h;have HLP:=hJ hlp
 simp only at hn
 obtain⟨_,_,hv,hk1,hk2,_⟩:=h.lies.fls.slice
 simp only[Value.slice.injEq,true_and] at hv
 obtain⟨hv1,hv2⟩:=hv
 rw[←hv2] at hk1 hk2
 clear hv1 hv2;have E0:Hid (Ext w (w.alloc (.cells #[Jq fm,Jq fb,.slice A l.length c] 80))):=hJ (Ext.new _ _)
 have B0:Hid (BIs (w.alloc (.cells #[Jq fm,Jq fb,.slice A l.length c] 80)) w.heap.size #[Jq fm,Jq fb,.slice A l.length c] 80):=hJ (BIs.new _ _ _)
 have HRL:Hid (qaz.Box (w.alloc (.cells #[Jq fm,Jq fb,.slice A l.length c] 80)) A l):=hJ (qhe (hr.ext E0.out))
 have HLW:Hid (∀k,(Value.slice Af fls.length cf).ownBlock=some k→k<w.heap.size):=hJ (fun k hk=>(H.out.lies.fls.lt k hk).2)
 clear h hr hlp;go_enter Tryz.func55,Tryz.ntmps55
 go_wp2_with fail
 refine(qdF A c l _ HRL.out (by omega)).mono ?_
 rintro en w1 ⟨A1,c1,rfl,h11,h12,ho1,hx1⟩
 have B1:=hJ (B0.out.ext hx1)
 have b2:w1.cell? (Pq w.heap.size 2)=some (.slice A l.length c):=B1.out.cell 2
 have f2:=B1.out.free 2
 have E1:=hJ (E0.out.trans hx1)
 have HO1:=hJ ho1.1
 go_upto_region 2 with fail
 have W12:Hid (Wrote w.heap.size w1 (w1.setCell (Pq w.heap.size 2) (.slice A1 l.length c1))):=hJ (Wrote.set _ _ _ _)
 have E2:Hid (Ext w (w1.setCell (Pq w.heap.size 2) (.slice A1 l.length c1))):=hJ (W12.out.ext E1.out (Nat.le_refl _))
 have B2:Hid (BIs (w1.setCell (Pq w.heap.size 2) (.slice A1 l.length c1)) w.heap.size #[Jq fm,Jq fb,.slice A1 l.length c1] 80):=hJ (B1.out.set 2 _)
 have HB1:Hid (∀q,(Value.slice A1 l.length c1).ownBlock=some q→w.heap.size+1≤q):=hJ (fun q hq=>by have:=(HO1.out.lt q hq).1;simpa using this)
 have R2:Hid (Row (w1.setCell (Pq w.heap.size 2) (.slice A1 l.length c1)) A1 (qaz.cells l)):=hJ (HO1.out.row.wrote (fun q _ hq e=>by subst hq;have:=HB1.out q.block rfl;omega) W12.out)
 have HC1:Hid (ColR (qai (qai col w.heap.size 8) (w.heap.size+1) 0) 0 A1 (qaz.cells l)):=hJ (fun q _ hq=>by subst hq;exact qbu (HB1.out q.block rfl))
 have HCOL:Hid (∀k,k<w.heap.size→(qai (qai col w.heap.size 8) (w.heap.size+1) 0) k=col k):=hJ (fun k hk=>by rw[qah (by omega),qah hk])
 have C2:Hid (CS (w1.setCell (Pq w.heap.size 2) (.slice A1 l.length c1)) B (qai (qai col w.heap.size 8) (w.heap.size+1) 0) p ⟨⟨self,base,stable,sent,Av,cv,vs,Al,cl,log,Ap,cp,pend,Am,cm,marks,Af,cf,fls⟩,Ak,ck,pk,Ad,cd,dl⟩):=hJ (H.out.keep (cs:=[]) (Stp.ext H.out.Bsz E2.out HCOL.out) (by simp))
 clear hx1 ho1 b2 f2;generalize w1.setCell (Pq w.heap.size 2) (.slice A1 l.length c1)=w2 at *
 have hwl:w.heap.size<w2.heap.size:=B2.out.lt
 have hpl2:p<w2.heap.size:=C2.out.lt
 have v0:w2.cell? (Pq w.heap.size 0)=some (Jq fm):=B2.out.cell 0
 have q8:w2.cell? (Pq p 8)=some (.slice Af fls.length cf):=C2.out.cell 8
 have HFB:Hid (flE.Box w2 Af fls):=hJ C2.out.lies.reads.fls
 go_wp2;go_loopw [4] (fun i wr=>∃k:Nat,k≤fls.length∧i=Jq (k:Int)∧Hid (∀i y,i<k→fls[i]?=some y→y.m<fm)∧Hid (Ext w2 wr)) (fun i _=>fls.length - (intOf i).toNat)
 case atStart=>exact⟨0,Nat.zero_le _,rfl,hJ (fun i y hi=>absurd hi (Nat.not_lt_zero _)),hJ (Ext.refl _)⟩
 case round=>
  obtain⟨k,hk,rfl,HK,HE2⟩:=hrel
  have CR:=hJ (C2.out.ext HE2.out);have BR:=hJ (B2.out.ext HE2.out);have RR:=hJ (R2.out.ext HE2.out);have ER:=hJ (E2.out.trans HE2.out)
  clear q8 v0;by_cases hlt:k<fls.length
  ·obtain⟨bb,off,x,hAf,hb,c0,c1',c2',HFR,HX⟩:=qgC (HFB.out.ext HE2.out) hlt
   obtain⟨g0,cg,hgv,_,_,hBg,hgs,hfz⟩:=qgE CR.out.lies.fls (by simp only;omega)
   simp only[Value.slice.injEq] at hgv
   obtain⟨hAg,_,rfl⟩:=hgv
   rw[hAg] at hAf
   simp only[Option.some.injEq,Addr.mk.injEq,and_true] at hAf
   obtain⟨rfl,rfl⟩:=hAf
   by_cases hx:x.m<fm
   ·have HK':Hid (∀i y,i<k+1→fls[i]?=some y→y.m<fm):=hJ (fun i y hi hy=>by
     rcases Nat.lt_or_ge i k with h1|h1
     ·exact HK.out i y h1 hy
     ·have:i=k:=by omega
      subst this
      rw[HX.out] at hy;cases hy;exact hx)
    have hx1:decide (x.m<fm)=true:=by simpa using hx
    have hAg':=hAg
    subst hAg
    clear hx;have hx2:Ext w2 wr.drew:=HE2.out.trans Ext.drew1
    have HE3:=hJ hx2
    clear hx2;go_upto_region 3 with fail
    refine qac 22 (fun w'=>Cq w' p 8 (.slice (some (Pq g0 0)) fls.length cf)∧Cq w' w.heap.size 0 (Jq fm)∧Cq w' g0 (k*3) (Jq x.m)) (by kernel_rfl) ⟨(CR.out.ext Ext.drew1).cell 8,(BR.out.ext Ext.drew1).cell 0,qhd (CR.out.ext Ext.drew1).lies.fls HX.out⟩ (fun hHeld=>?_)
    have hx2:Ext wr wr.drew:=Ext.drew1
    replace CR:=hJ (CR.out.ext hx2);replace BR:=hJ (BR.out.ext hx2);replace RR:=hJ (RR.out.ext hx2);replace ER:=hJ (ER.out.trans hx2);clear hx2
    generalize wr.drew=v3 at *
    refine E_t 0 9 ?_;refine E_t 1 10 ?_;refine E_t 2 11 ?_;refine E_t 3 12 ?_;refine E_t 4 13 ?_;refine E_t 5 14 ?_;refine E_t 6 15 ?_;refine E_t 7 16 ?_;refine E_t 8 17 ?_;refine E_t 9 18 ?_;refine E_t 10 19 ?_;refine E_t 11 20 ?_;refine E_t 12 21 ?_;refine E_t 13 22 ?_;refine E_t 14 23 ?_;refine E_t 15 24 ?_;refine E_t 16 25 ?_;refine E_t 17 26 ?_;refine E_t 18 27 ?_;refine E_t 19 28 ?_;refine E_t 20 29 ?_;refine E_t 21 30 ?_;refine qaE (by kernel_rfl) (by rfl) ?_
    clear hHeld;go_wp2;go_roundw
    case rel=>exact⟨k+1,by omega,by go_num,HK',HE3⟩
    case measure=>simp[intOf];omega
   ·have hx1:decide (x.m<fm)=false:=by simpa using hx
    have HS:Hid (qgX (fls.map FlM.v) fm=k):=hJ (qlA HK.out hk (fun y hy=>by rw[HX.out] at hy;cases hy;exact hx))
    subst hAg
    by_cases he:x.m=fm
    ·have hx2:(x.m == fm)=true:=by simpa using he
     have HRES:Hid (putF (fls.map FlM.v) (fm,fb,l)=(fls.set k ⟨fm,fb,A1,c1,l⟩).map FlM.v):=hJ (qpb (f:=⟨fm,fb,A1,c1,l⟩) HS.out HX.out he)
     clear hx he;go_upto_region 3 with fail
     refine qac 22 (fun w'=>Cq w' p 8 (.slice (some (Pq g0 0)) fls.length cf)∧Cq w' w.heap.size 0 (Jq fm)∧Cq w' g0 (k*3) (Jq x.m)) (by kernel_rfl) ⟨(CR.out.ext Ext.drew1).cell 8,(BR.out.ext Ext.drew1).cell 0,qhd (CR.out.ext Ext.drew1).lies.fls HX.out⟩ (fun hHeld=>?_)
     have hx2:Ext wr wr.drew:=Ext.drew1
     replace CR:=hJ (CR.out.ext hx2);replace BR:=hJ (BR.out.ext hx2);replace RR:=hJ (RR.out.ext hx2);replace ER:=hJ (ER.out.trans hx2);clear hx2
     generalize wr.drew=v3 at *
     refine E_t 0 9 ?_;refine E_t 1 10 ?_;refine E_t 2 11 ?_;refine E_t 3 12 ?_;refine E_t 4 13 ?_;refine E_t 5 14 ?_;refine E_t 6 15 ?_;refine E_t 7 16 ?_;refine E_t 8 17 ?_;refine E_t 9 18 ?_;refine E_t 10 19 ?_;refine E_t 11 20 ?_;refine E_t 12 21 ?_;refine E_t 13 22 ?_;refine E_t 14 23 ?_;refine E_t 15 24 ?_;refine E_t 16 25 ?_;refine E_t 17 26 ?_;refine E_t 18 27 ?_;refine E_t 19 28 ?_;refine E_t 20 29 ?_;refine E_t 21 30 ?_;refine qaE (by kernel_rfl) (by rfl) ?_
     clear hHeld;go_upto_region 5 with fail
     refine qac 22 (fun w'=>Cq w' p 8 (.slice (some (Pq g0 0)) fls.length cf)∧Cq w' w.heap.size 0 (Jq fm)∧Cq w' g0 (k*3) (Jq x.m)) (by kernel_rfl) ⟨(CR.out.ext Ext.drew1).cell 8,(BR.out.ext Ext.drew1).cell 0,qhd (CR.out.ext Ext.drew1).lies.fls HX.out⟩ (fun hHeld=>?_)
     have hx2:Ext v3 v3.drew:=Ext.drew1
     replace CR:=hJ (CR.out.ext hx2);replace BR:=hJ (BR.out.ext hx2);replace RR:=hJ (RR.out.ext hx2);replace ER:=hJ (ER.out.trans hx2);clear hx2
     generalize v3.drew=v5 at *
     refine E_t 0 33 ?_;refine E_t 1 34 ?_;refine E_t 2 35 ?_;refine E_t 3 36 ?_;refine E_t 4 37 ?_;refine E_t 5 38 ?_;refine E_t 6 39 ?_;refine E_t 7 40 ?_;refine E_t 8 41 ?_;refine E_t 9 42 ?_;refine E_t 10 43 ?_;refine E_t 11 44 ?_;refine E_t 12 45 ?_;refine E_t 13 46 ?_;refine E_t 14 47 ?_;refine E_t 15 48 ?_;refine E_t 16 49 ?_;refine E_t 17 50 ?_;refine E_t 18 51 ?_;refine E_t 19 52 ?_;refine E_t 20 53 ?_;refine E_t 21 54 ?_;refine qaE (by kernel_rfl) (by rfl) ?_
     clear hHeld;go_upto_region 6 with fail
     obtain⟨g,rfl⟩:∃x,x=g0:=⟨_,rfl⟩
     refine qac 8 (fun w'=>Cq w' p 8 (.slice (some (Pq g 0)) fls.length cf)∧Cq w' w.heap.size 0 (Jq fm)∧Cq w' w.heap.size 1 (Jq fb)∧Cq w' w.heap.size 2 (.slice A1 l.length c1)) (by kernel_rfl) ⟨(CR.out.ext Ext.drew1).cell 8,(BR.out.ext Ext.drew1).cell 0,(BR.out.ext Ext.drew1).cell 1,(BR.out.ext Ext.drew1).cell 2⟩ (fun hHeld=>?_)
     refine E_t 0 55 ?_;refine E_t 1 56 ?_;refine E_t 2 57 ?_;refine E_t 3 58 ?_;refine E_t 4 59 ?_;refine E_t 5 60 ?_;refine E_t 6 61 ?_;refine E_t 7 62 ?_;refine qbc (by rfl) (by kernel_rfl) ?_
     have fz0:=qkx CR.out.lies.fls hlt (k*3);have fz1:=qkx CR.out.lies.fls hlt (k*3+1);have fz2:=qkx CR.out.lies.fls hlt (k*3+2)
     obtain⟨d0,d1,d2⟩:=qqd CR.out.lies.fls HX.out
     go_wp2;(try simp only[Exit.inBlock,Exit.then]);refine bodyPost_ret (results_none rfl _ _ _) rfl ?_
     have O3:flE.Own (((v5.drew.setCell (Pq g (k*3)) (Jq fm)).setCell (Pq g (k*3+1)) (Jq fb)).setCell (Pq g (k*3+2)) (.slice A1 l.length c1)) B (.slice (some (Pq g 0)) (fls.set k ⟨fm,fb,A1,c1,l⟩).length cf) (fls.set k ⟨fm,fb,A1,c1,l⟩):=qsp ⟨fm,fb,A1,c1,l⟩ (CR.out.ext Ext.drew1).lies.fls HX.out
     have W23:Wrote g v5.drew (((v5.drew.setCell (Pq g (k*3)) (Jq fm)).setCell (Pq g (k*3+1)) (Jq fb)).setCell (Pq g (k*3+2)) (.slice A1 l.length c1)):=((Wrote.set g _ _ _).trans (Wrote.set g _ _ _)).trans (Wrote.set g _ _ _)
     have hcg:(qai (qai col w.heap.size 8) (w.heap.size+1) 0) g=4:=CR.out.lies.fc g rfl
     have hgp:g≠p:=fun e=>by have:=CR.out.pc;rw[←e,hcg] at this;cases this
     have S3:Stp B [4] (qai (qai col w.heap.size 8) (w.heap.size+1) 0) v5 (qai (qai col w.heap.size 8) (w.heap.size+1) 0) (((v5.drew.setCell (Pq g (k*3)) (Jq fm)).setCell (Pq g (k*3+1)) (Jq fb)).setCell (Pq g (k*3+2)) (.slice A1 l.length c1)):=(Stp.ext' CR.out.Bsz Ext.drew1).trans (Stp.wrote W23 hBg CR.out.Bsz (by rw[hcg];simp))
     refine⟨⟨⟨self,base,stable,sent,Av,cv,vs,Al,cl,log,Ap,cp,pend,Am,cm,marks,(some (Pq g 0)),cf,fls.set k ⟨fm,fb,A1,c1,l⟩⟩,Ak,ck,pk,Ad,cd,dl⟩,(qai (qai col w.heap.size 8) (w.heap.size+1) 0),rfl,?_,?_,?_⟩
     ·refine CS.flput CR.out (S3.mono (by simp)) ?_ O3 (fun q hq=>by cases hq;exact hcg) (fun f hf=>?_) (by rw[List.length_set];omega)
      ·have:=W23.bis (CR.out.ext Ext.drew1).box (Ne.symm hgp)
       simp only[CM.cells,List.length_set] at this⊢
       exact this
      ·rcases List.mem_or_eq_of_mem_set hf with hf|rfl
       ·exact .inl hf
       ·exact .inr ⟨⟨h11,h12⟩,S3.row RR.out HC1.out (by simp),S3.colR RR.out HC1.out,hl,HLP.out⟩
     ·simp only[CM.cs,BM.st];rw[HRES.out]
     ·exact((Stp.ext (cs:=[4]) H.out.Bsz ER.out HCOL.out).trans S3).mono (cs':=[1,2,3,4,5,7]) (by simp)
    ·have hx2:(x.m == fm)=false:=by simpa using he
     have HRES:Hid (putF (fls.map FlM.v) (fm,fb,l)=(fls.take k++⟨fm,fb,A1,c1,l⟩::fls.drop k).map FlM.v):=hJ (qlc (f:=⟨fm,fb,A1,c1,l⟩) HS.out (fun y hy=>by rw[HX.out] at hy;cases hy;exact he))
     clear hx he;go_upto_region 3 with fail
     refine qac 22 (fun w'=>Cq w' p 8 (.slice (some (Pq g0 0)) fls.length cf)∧Cq w' w.heap.size 0 (Jq fm)∧Cq w' g0 (k*3) (Jq x.m)) (by kernel_rfl) ⟨(CR.out.ext Ext.drew1).cell 8,(BR.out.ext Ext.drew1).cell 0,qhd (CR.out.ext Ext.drew1).lies.fls HX.out⟩ (fun hHeld=>?_)
     have hx2:Ext wr wr.drew:=Ext.drew1
     replace CR:=hJ (CR.out.ext hx2);replace BR:=hJ (BR.out.ext hx2);replace RR:=hJ (RR.out.ext hx2);replace ER:=hJ (ER.out.trans hx2);clear hx2
     generalize wr.drew=v3 at *
     refine E_t 0 9 ?_;refine E_t 1 10 ?_;refine E_t 2 11 ?_;refine E_t 3 12 ?_;refine E_t 4 13 ?_;refine E_t 5 14 ?_;refine E_t 6 15 ?_;refine E_t 7 16 ?_;refine E_t 8 17 ?_;refine E_t 9 18 ?_;refine E_t 10 19 ?_;refine E_t 11 20 ?_;refine E_t 12 21 ?_;refine E_t 13 22 ?_;refine E_t 14 23 ?_;refine E_t 15 24 ?_;refine E_t 16 25 ?_;refine E_t 17 26 ?_;refine E_t 18 27 ?_;refine E_t 19 28 ?_;refine E_t 20 29 ?_;refine E_t 21 30 ?_;refine qaE (by kernel_rfl) (by rfl) ?_
     clear hHeld;go_upto_region 5 with fail
     refine qac 22 (fun w'=>Cq w' p 8 (.slice (some (Pq g0 0)) fls.length cf)∧Cq w' w.heap.size 0 (Jq fm)∧Cq w' g0 (k*3) (Jq x.m)) (by kernel_rfl) ⟨(CR.out.ext Ext.drew1).cell 8,(BR.out.ext Ext.drew1).cell 0,qhd (CR.out.ext Ext.drew1).lies.fls HX.out⟩ (fun hHeld=>?_)
     have hx2:Ext v3 v3.drew:=Ext.drew1
     replace CR:=hJ (CR.out.ext hx2);replace BR:=hJ (BR.out.ext hx2);replace RR:=hJ (RR.out.ext hx2);replace ER:=hJ (ER.out.trans hx2);clear hx2
     generalize v3.drew=v5 at *
     refine E_t 0 33 ?_;refine E_t 1 34 ?_;refine E_t 2 35 ?_;refine E_t 3 36 ?_;refine E_t 4 37 ?_;refine E_t 5 38 ?_;refine E_t 6 39 ?_;refine E_t 7 40 ?_;refine E_t 8 41 ?_;refine E_t 9 42 ?_;refine E_t 10 43 ?_;refine E_t 11 44 ?_;refine E_t 12 45 ?_;refine E_t 13 46 ?_;refine E_t 14 47 ?_;refine E_t 15 48 ?_;refine E_t 16 49 ?_;refine E_t 17 50 ?_;refine E_t 18 51 ?_;refine E_t 19 52 ?_;refine E_t 20 53 ?_;refine E_t 21 54 ?_;refine qaE (by kernel_rfl) (by rfl) ?_
     clear hHeld;go_upto_region 7 with fail
     refine qac 10 (fun w'=>Cq w' p 8 (.slice (some (Pq g0 0)) fls.length cf)∧Cq w' w.heap.size 0 (Jq fm)∧Cq w' w.heap.size 1 (Jq fb)∧Cq w' w.heap.size 2 (.slice A1 l.length c1)) (by kernel_rfl) ⟨(CR.out.ext Ext.drew1).cell 8,(BR.out.ext Ext.drew1).cell 0,(BR.out.ext Ext.drew1).cell 1,(BR.out.ext Ext.drew1).cell 2⟩ (fun hHeld=>?_)
     refine E_t 0 63 ?_;refine E_t 1 64 ?_;refine E_t 2 65 ?_;refine E_t 3 66 ?_;refine E_t 4 67 ?_;refine E_t 5 68 ?_;refine E_t 6 69 ?_;refine E_t 7 70 ?_;refine E_r 8 (some 71) fun K hK=>?_
     go_simp;have EA:Hid (Ext v5 (v5.alloc (.cells #[Jq fm,Jq fb,.slice A1 l.length c1] 80)).drew):=hJ ((Ext.new _ _).trans Ext.drew1)
     have G3:Hid (BIs (v5.alloc (.cells #[Jq fm,Jq fb,.slice A1 l.length c1] 80)).drew v5.heap.size (flE.f ⟨fm,fb,A1,c1,l⟩).toArray 80):=hJ ((qnb fm fb A1 c1 l v5).ext Ext.drew1)
     have C3:=hJ (CR.out.ext EA.out);have B3:=hJ (BR.out.ext EA.out);have R3:=hJ (RR.out.ext EA.out);have E3:=hJ (ER.out.trans EA.out)
     have HGO:Hid (∀q,(Value.slice (some (Pq g0 0)) fls.length cf).ownBlock=some q→q≠v5.heap.size):=hJ (fun q hq=>by have h9:q<v5.heap.size:=(CR.out.lies.fls.lt q hq).2;omega)
     generalize (v5.alloc (.cells #[Jq fm,Jq fb,.slice A1 l.length c1] 80)).drew=u3 at *
     generalize v5.heap.size=r_e at *
     clear hHeld;refine hK.out _ _ ⟨C3.out.cell 8,B3.out.cell 0,B3.out.cell 1,B3.out.cell 2⟩ (fun hHeld=>?_)
     clear hK K;try simp only[Act.put,aP1,aP2,aP3]
     refine E_r 9 (some 72) fun K hK=>?_
     go_simp;go_at_call 127;refine(qp2 B (some (Pq g0 0)) cf fls (⟨fm,fb,A1,c1,l⟩:FlM) k u3 (by exact C3.out.lies.fls) (by exact C3.out.Bsz) r_e 1 (by exact G3.out) (by exact HGO.out) hlt (by omega)).mono ?_
     rintro en w3 ⟨v3,rfl,ho3,hg3,hs3⟩
     obtain⟨NL,hNL⟩:∃x,x=fls.take k++⟨fm,fb,A1,c1,l⟩::fls.drop k:=⟨_,rfl⟩
     have HNL:=hJ hNL
     rw[←hNL] at ho3
     clear hNL;obtain⟨A3,c3,rfl,h31,h32,_⟩:=ho3.slice
     have HO3:=hJ ho3
     have S3:Hid (Stp B [4] (qai (qai col w.heap.size 8) (w.heap.size+1) 0) u3 (qai (qai (qai col w.heap.size 8) (w.heap.size+1) 0) u3.heap.size 4) w3):=hJ ((Stp.grew hg3 C3.out.Bsz (fun q hq=>(C3.out.lies.fls.lt q hq).1) C3.out.lies.fc (by simp)).recol (fun k hk=>qah hk))
     have HCV:Hid (ColV (qai (qai (qai col w.heap.size 8) (w.heap.size+1) 0) u3.heap.size 4) 4 (.slice A3 NL.length c3)):=hJ (qcj hs3 C3.out.lies.fc (Nat.le_refl _) (fun q hq=>(C3.out.lies.fls.lt q hq).2))
     have BX3:Hid (BIs w3 p (⟨⟨self,base,stable,sent,Av,cv,vs,Al,cl,log,Ap,cp,pend,Am,cm,marks,(some (Pq g0 0)),cf,fls⟩,Ak,ck,pk,Ad,cd,dl⟩:CM).cells 86):=hJ (S3.out.bis C3.out.box (by rw[C3.out.pc];simp))
     have B4:Hid (BIs w3 w.heap.size #[Jq fm,Jq fb,.slice A1 l.length c1] 80):=hJ (B3.out.same (hg3.block _ B3.out.lt (fun e=>by have h2:=HLW.out _ e.symm;omega)))
     clear ho3 hg3 hs3;clear hHeld;refine hK.out _ _ ⟨BX3.out.cell 8,B4.out.cell 0,B4.out.cell 1,B4.out.cell 2⟩ (fun hHeld=>?_)
     clear hK K;try simp only[Act.put,aP1,aP2,aP3]
     refine qbc (by rfl) (by kernel_rfl) ?_
     have q8':w3.cell? (Pq p 8)=some (.slice (some (Pq g0 0)) fls.length cf):=BX3.out.cell 8
     have f8:=BX3.out.free 8
     go_wp2;go_end0;have hpc3:(qai (qai (qai col w.heap.size 8) (w.heap.size+1) 0) u3.heap.size 4) p=1:=(S3.out.hue p C3.out.lt).trans C3.out.pc
     have S4:Stp B [1,4] (qai (qai (qai col w.heap.size 8) (w.heap.size+1) 0) u3.heap.size 4) w3 (qai (qai (qai col w.heap.size 8) (w.heap.size+1) 0) u3.heap.size 4) (w3.setCell (Pq p 8) (.slice A3 NL.length c3)):=Stp.wrote (Wrote.set _ _ _ _) H.out.bp (Nat.le_trans C3.out.Bsz S3.out.size) (by rw[hpc3];simp)
     have S34:=(S3.out.mono (cs':=[1,4]) (by simp)).trans S4
     refine⟨⟨⟨self,base,stable,sent,Av,cv,vs,Al,cl,log,Ap,cp,pend,Am,cm,marks,A3,c3,NL⟩,Ak,ck,pk,Ad,cd,dl⟩,qai (qai (qai col w.heap.size 8) (w.heap.size+1) 0) u3.heap.size 4,rfl,?_,?_,?_⟩
     ·refine CS.flput C3.out S34 (BX3.out.set 8 _) (HO3.out.keep fun q hq hlt=>(Wrote.set p 8 w3 _).blk hlt (fun e=>by subst e;have:=HCV.out q hq;rw[hpc3] at this;cases this)) HCV.out (fun f hf=>?_) (by rw[HNL.out];simp;omega)
      rw[HNL.out] at hf
      have hf':f∈fls∨f=⟨fm,fb,A1,c1,l⟩:=by rcases qfT hf with hf|hf;exact .inr hf;exact .inl hf
      exact qqA
     ·simp only[CM.cs,BM.st];rw[HRES.out,HNL.out]
     ·exact qqN
  ·have hkl:k=fls.length:=by omega
   have HS:Hid (qgX (fls.map FlM.v) fm=k):=hJ (qlA HK.out hk (fun y hy=>by rw[List.getElem?_eq_none (by omega)] at hy;cases hy))
   have HRES:Hid (putF (fls.map FlM.v) (fm,fb,l)=(fls.take k++⟨fm,fb,A1,c1,l⟩::fls.drop k).map FlM.v):=hJ (qlc (f:=⟨fm,fb,A1,c1,l⟩) HS.out (fun y hy=>by rw[List.getElem?_eq_none (by omega)] at hy;cases hy))
   subst hkl
   go_upto_region 3 with fail
   refine qac 22 (fun w'=>Cq w' p 8 (.slice Af fls.length cf)∧Cq w' w.heap.size 0 (Jq fm)) (by kernel_rfl) ⟨(CR.out.ext Ext.drew1).cell 8,(BR.out.ext Ext.drew1).cell 0⟩ (fun hHeld=>?_)
   have hx2:Ext wr wr.drew:=Ext.drew1
   replace CR:=hJ (CR.out.ext hx2);replace BR:=hJ (BR.out.ext hx2);replace RR:=hJ (RR.out.ext hx2);replace ER:=hJ (ER.out.trans hx2);clear hx2
   generalize wr.drew=v3 at *
   refine E_t 0 9 ?_;refine E_t 1 10 ?_;refine E_t 2 11 ?_;refine E_t 3 12 ?_;refine E_t 4 13 ?_;refine E_t 5 14 ?_;refine E_t 6 15 ?_;refine E_t 7 16 ?_;refine E_t 8 17 ?_;refine E_s 9 18 ?_;refine E_s 10 19 ?_;refine E_s 11 20 ?_;refine E_s 12 21 ?_;refine E_s 13 22 ?_;refine E_s 14 23 ?_;refine E_s 15 24 ?_;refine E_s 16 25 ?_;refine E_s 17 26 ?_;refine E_s 18 27 ?_;refine E_s 19 28 ?_;refine E_s 20 29 ?_;refine E_t 21 30 ?_;refine qaE (by kernel_rfl) (by rfl) ?_
   clear hHeld;go_upto_region 5 with fail
   refine qac 22 (fun w'=>Cq w' p 8 (.slice Af fls.length cf)∧Cq w' w.heap.size 0 (Jq fm)) (by kernel_rfl) ⟨(CR.out.ext Ext.drew1).cell 8,(BR.out.ext Ext.drew1).cell 0⟩ (fun hHeld=>?_)
   have hx2:Ext v3 v3.drew:=Ext.drew1
   replace CR:=hJ (CR.out.ext hx2);replace BR:=hJ (BR.out.ext hx2);replace RR:=hJ (RR.out.ext hx2);replace ER:=hJ (ER.out.trans hx2);clear hx2
   generalize v3.drew=v5 at *
   refine E_t 0 33 ?_;refine E_t 1 34 ?_;refine E_t 2 35 ?_;refine E_t 3 36 ?_;refine E_t 4 37 ?_;refine E_t 5 38 ?_;refine E_t 6 39 ?_;refine E_t 7 40 ?_;refine E_t 8 41 ?_;refine E_s 9 42 ?_;refine E_s 10 43 ?_;refine E_s 11 44 ?_;refine E_s 12 45 ?_;refine E_s 13 46 ?_;refine E_s 14 47 ?_;refine E_s 15 48 ?_;refine E_s 16 49 ?_;refine E_s 17 50 ?_;refine E_s 18 51 ?_;refine E_s 19 52 ?_;refine E_s 20 53 ?_;refine E_t 21 54 ?_;refine qaE (by kernel_rfl) (by rfl) ?_
   clear hHeld;go_upto_region 7 with fail
   refine qac 10 (fun w'=>Cq w' p 8 (.slice Af fls.length cf)∧Cq w' w.heap.size 0 (Jq fm)∧Cq w' w.heap.size 1 (Jq fb)∧Cq w' w.heap.size 2 (.slice A1 l.length c1)) (by kernel_rfl) ⟨(CR.out.ext Ext.drew1).cell 8,(BR.out.ext Ext.drew1).cell 0,(BR.out.ext Ext.drew1).cell 1,(BR.out.ext Ext.drew1).cell 2⟩ (fun hHeld=>?_)
   refine E_t 0 63 ?_;refine E_t 1 64 ?_;refine E_t 2 65 ?_;refine E_t 3 66 ?_;refine E_t 4 67 ?_;refine E_t 5 68 ?_;refine E_t 6 69 ?_;refine E_t 7 70 ?_;refine E_r 8 (some 71) fun K hK=>?_
   go_simp;have EA:Hid (Ext v5 (v5.alloc (.cells #[Jq fm,Jq fb,.slice A1 l.length c1] 80)).drew):=hJ ((Ext.new _ _).trans Ext.drew1)
   have G3:Hid (BIs (v5.alloc (.cells #[Jq fm,Jq fb,.slice A1 l.length c1] 80)).drew v5.heap.size (flE.f ⟨fm,fb,A1,c1,l⟩).toArray 80):=hJ ((qnb fm fb A1 c1 l v5).ext Ext.drew1)
   have C3:=hJ (CR.out.ext EA.out);have B3:=hJ (BR.out.ext EA.out);have R3:=hJ (RR.out.ext EA.out);have E3:=hJ (ER.out.trans EA.out)
   have HGO:Hid (∀q,(Value.slice Af fls.length cf).ownBlock=some q→q≠v5.heap.size):=hJ (fun q hq=>by have h9:q<v5.heap.size:=(CR.out.lies.fls.lt q hq).2;omega)
   generalize (v5.alloc (.cells #[Jq fm,Jq fb,.slice A1 l.length c1] 80)).drew=u3 at *
   generalize v5.heap.size=r_e at *
   clear hHeld;refine hK.out _ _ ⟨C3.out.cell 8,B3.out.cell 0,B3.out.cell 1,B3.out.cell 2⟩ (fun hHeld=>?_)
   clear hK K;try simp only[Act.put,aP1,aP2,aP3]
   refine E_r 9 (some 72) fun K hK=>?_
   go_simp;go_at_call 127;have HXG:Hid (flE.ok (⟨fm,fb,A1,c1,l⟩:FlM)∧∀r∈flE.inn (⟨fm,fb,A1,c1,l⟩:FlM),Row u3 r.1 r.2∧Apt (.slice Af fls.length cf) r):=hJ (qq9 ⟨h11,h12⟩ R3.out HC1.out C3.out)
   refine(qqj B Af cf fls (⟨fm,fb,A1,c1,l⟩:FlM) u3 (by exact C3.out.fl_ob) (by exact C3.out.Bsz) r_e 1 (by exact qsn G3.out) (by exact HXG.out) (by omega) ⟨hk1,hk2⟩).mono ?_
   rintro en w3 ⟨v3,rfl,ho3,hg3,hs3⟩
   obtain⟨NL,hNL⟩:∃x,x=fls++[⟨fm,fb,A1,c1,l⟩]:=⟨_,rfl⟩
   have HNL:=hJ hNL
   rw[←hNL] at ho3
   clear hNL;obtain⟨A3,c3,rfl,h31,h32,_⟩:=ho3.slice
   have HO3:=hJ ho3
   have S3:Hid (Stp B [4] (qai (qai col w.heap.size 8) (w.heap.size+1) 0) u3 (qai (qai (qai col w.heap.size 8) (w.heap.size+1) 0) u3.heap.size 4) w3):=hJ ((Stp.grew hg3 C3.out.Bsz (fun q hq=>(C3.out.lies.fls.lt q hq).1) C3.out.lies.fc (by simp)).recol (fun k hk=>qah hk))
   have HCV:Hid (ColV (qai (qai (qai col w.heap.size 8) (w.heap.size+1) 0) u3.heap.size 4) 4 (.slice A3 NL.length c3)):=hJ (qcj hs3 C3.out.lies.fc (Nat.le_refl _) (fun q hq=>(C3.out.lies.fls.lt q hq).2))
   have BX3:Hid (BIs w3 p (⟨⟨self,base,stable,sent,Av,cv,vs,Al,cl,log,Ap,cp,pend,Am,cm,marks,Af,cf,fls⟩,Ak,ck,pk,Ad,cd,dl⟩:CM).cells 86):=hJ (S3.out.bis C3.out.box (by rw[C3.out.pc];simp))
   have B4:Hid (BIs w3 w.heap.size #[Jq fm,Jq fb,.slice A1 l.length c1] 80):=hJ (B3.out.same (hg3.block _ B3.out.lt (fun e=>by have h2:=HLW.out _ e.symm;omega)))
   clear ho3 hg3 hs3;clear hHeld;refine hK.out _ _ ⟨BX3.out.cell 8,B4.out.cell 0,B4.out.cell 1,B4.out.cell 2⟩ (fun hHeld=>?_)
   clear hK K;try simp only[Act.put,aP1,aP2,aP3]
   refine qbc (by rfl) (by kernel_rfl) ?_
   have q8':w3.cell? (Pq p 8)=some (.slice Af fls.length cf):=BX3.out.cell 8
   have f8:=BX3.out.free 8
   go_wp2;go_end0;have hpc3:(qai (qai (qai col w.heap.size 8) (w.heap.size+1) 0) u3.heap.size 4) p=1:=(S3.out.hue p C3.out.lt).trans C3.out.pc
   have S4:Stp B [1,4] (qai (qai (qai col w.heap.size 8) (w.heap.size+1) 0) u3.heap.size 4) w3 (qai (qai (qai col w.heap.size 8) (w.heap.size+1) 0) u3.heap.size 4) (w3.setCell (Pq p 8) (.slice A3 NL.length c3)):=Stp.wrote (Wrote.set _ _ _ _) H.out.bp (Nat.le_trans C3.out.Bsz S3.out.size) (by rw[hpc3];simp)
   have S34:=(S3.out.mono (cs':=[1,4]) (by simp)).trans S4
   refine⟨⟨⟨self,base,stable,sent,Av,cv,vs,Al,cl,log,Ap,cp,pend,Am,cm,marks,A3,c3,NL⟩,Ak,ck,pk,Ad,cd,dl⟩,qai (qai (qai col w.heap.size 8) (w.heap.size+1) 0) u3.heap.size 4,rfl,?_,?_,?_⟩
   ·refine CS.flput C3.out S34 (BX3.out.set 8 _) (HO3.out.keep fun q hq hlt=>(Wrote.set p 8 w3 _).blk hlt (fun e=>by subst e;have:=HCV.out q hq;rw[hpc3] at this;cases this)) HCV.out (fun f hf=>?_) (by rw[HNL.out];simp;omega)
    rw[HNL.out] at hf
    have hf':f∈fls∨f=⟨fm,fb,A1,c1,l⟩:=by rcases List.mem_append.1 hf with hf|hf;exact .inl hf;exact .inr (by simpa using hf)
    exact qqA
   ·simp only[CM.cs,BM.st];rw[HRES.out,HNL.out];simp only[List.take_length,List.drop_length]
   ·exact qqN
theorem qeR {P : Prop} (h : P := by
 go_wp2;go_end0;rw[HR.out,if_neg (by simp)]
 exact⟨_,col,rfl,C0.out,rfl,Stp.ext' H.out.Bsz E0.out⟩) : P := h
theorem qgR(l p:List Ent):qek l p=qht l p:=by
 unfold qek qht qes
 rfl
theorem qcO(A A':Option Addr)(c c' k:Nat)(l p:List Ent)(w:World)(h:Row w A (qaz.cells l))(h':Row w A' (qaz.cells p))(hn:l.length≤1000000000)(hk:k=p.length)(hc:l.length≤c) :
  Calls Tryz.prog 130 #[.slice A l.length c,.slice A' k c'] w fun e w'=>e=.returned (.bool (qek l p))∧Ext w w':=by subst hk;exact qlI A A' c c' l p w h h' hn hc
set_option maxHeartbeats 1000000 in
theorem qh8(m:CM)(B:Nat)(col:Nat→Nat)(p:Nat)(kind num first mst:Int)(pay:List UInt8)(ents:List Ent)(Ae:Option Addr)(ce:Nat)(w:World)(h:CS w B col p m)(hst:0≤m.b.stable∧m.b.stable≤m.b.log.length)
  (ho:qaz.Own w B (.slice Ae ents.length ce) ents) (hce:ColV col 2 (.slice Ae ents.length ce)) (hel:ents.length≤2000) (hep:∀e∈ents,e.p.length≤6000) :
  Calls Tryz.prog 146 #[.pointer (some (Pq p 0)),qoK ⟨kind,num,first,mst,pay,ents⟩ Ae ce] w (qhw B col p w (qbt m.cs ⟨kind,num,first,mst,pay,ents⟩)):=by
 obtain⟨⟨self,base,stable,sent,Av,cv,vs,Al,cl,log,Ap,cp,pend,Am,cm,marks,Af,cf,fls⟩,Ak,ck,pk,Ad,cd,dl⟩:=m
 have hpl:=h.lt
 have H:=hJ h
 have hfl:=h.fits.log
 have hcl:=h.fits.cl
 simp only at hst hfl hcl
 obtain⟨sn,rfl⟩:∃k:Nat,stable=(k:Int):=⟨stable.toNat,by omega⟩
 have HO:=hJ ho;have HCE:=hJ hce;have HEP:=hJ hep
 obtain⟨Ae',ce',hv,hk1,hk2,_⟩:=ho.slice
 simp only[Value.slice.injEq,true_and] at hv
 obtain⟨hv1,hv2⟩:=hv
 rw[←hv2] at hk1 hk2
 clear hv1 hv2;have E0:Hid (Ext w (w.alloc (.cells #[Jq kind,Jq num,Jq first,Jq mst,.string (qax pay),.slice Ae ents.length ce] 110))):=hJ (Ext.new _ _)
 have C0:Hid (CS (w.alloc (.cells #[Jq kind,Jq num,Jq first,Jq mst,.string (qax pay),.slice Ae ents.length ce] 110)) B col p ⟨⟨self,base,(sn:Int),sent,Av,cv,vs,Al,cl,log,Ap,cp,pend,Am,cm,marks,Af,cf,fls⟩,Ak,ck,pk,Ad,cd,dl⟩):=hJ (h.ext E0.out)
 have M0:Hid (BIs (w.alloc (.cells #[Jq kind,Jq num,Jq first,Jq mst,.string (qax pay),.slice Ae ents.length ce] 110)) w.heap.size #[Jq kind,Jq num,Jq first,Jq mst,.string (qax pay),.slice Ae ents.length ce] 110):=hJ (BIs.new _ _ _)
 have O0:Hid (Row (w.alloc (.cells #[Jq kind,Jq num,Jq first,Jq mst,.string (qax pay),.slice Ae ents.length ce] 110)) Ae (qaz.cells ents)):=hJ (ho.row.ext E0.out)
 clear h ho hce hep;obtain⟨v1,hv1⟩:∃x,qaX ents num=x:=⟨_,rfl⟩
 obtain⟨v2,hv2⟩:∃x,qht ents (log.take sn)=x:=⟨_,rfl⟩
 obtain⟨on,hon⟩:∃x,qay ents self=x:=⟨_,rfl⟩
 have HV1:=hJ hv1;have HV2:Hid (qek ents (log.take sn)=v2):=hJ (by rw[qgR];exact hv2);have HON:=hJ hon
 have HR:Hid (qbt (⟨⟨self,base,(sn:Int),sent,Av,cv,vs,Al,cl,log,Ap,cp,pend,Am,cm,marks,Af,cf,fls⟩,Ak,ck,pk,Ad,cd,dl⟩:CM).cs ⟨kind,num,first,mst,pay,ents⟩=if 0<ents.length∧v1=true∧v2=true∧(on:Int)≤sent then {(⟨⟨self,base,(sn:Int),sent,Av,cv,vs,Al,cl,log,Ap,cp,pend,Am,cm,marks,Af,cf,fls⟩,Ak,ck,pk,Ad,cd,dl⟩:CM).cs with s:={(⟨⟨self,base,(sn:Int),sent,Av,cv,vs,Al,cl,log,Ap,cp,pend,Am,cm,marks,Af,cf,fls⟩,Ak,ck,pk,Ad,cd,dl⟩:CM).cs.s with base:=num,log:=ents}} else (⟨⟨self,base,(sn:Int),sent,Av,cv,vs,Al,cl,log,Ap,cp,pend,Am,cm,marks,Af,cf,fls⟩,Ak,ck,pk,Ad,cd,dl⟩:CM).cs):=hJ (by unfold qbt;rw[←hv1,←hv2,←hon];rfl)
 clear hv1 hv2 hon;have hsc:sn≤cl:=by have:=hcl.1;omega
 go_enter Tryz.func146,Tryz.ntmps146
 go_upto_region 1 with fail
 generalize (w.alloc (.cells #[Jq kind,Jq num,Jq first,Jq mst,.string (qax pay),.slice Ae ents.length ce] 110))=u0 at *
 by_cases h0:0<ents.length
 rotate_left
 ·have h0':ents=[]:=List.eq_nil_of_length_eq_zero (by omega)
  subst h0'
  clear h0;refine qac 43 (fun w'=>Cq w' p 0 (Jq self)∧Cq w' p 3 (.slice Al log.length cl)∧Cq w' p 4 (Jq (sn:Int))∧Cq w' p 5 (Jq sent)∧w'.cell? (Pw w 1)=some (Jq num)∧w'.cell? (Pw w 5)=some (.slice Ae 0 ce)) (by kernel_rfl) ⟨(C0.out.ext Ext.drew1).cell 0,(C0.out.ext Ext.drew1).cell 3,(C0.out.ext Ext.drew1).cell 4,(C0.out.ext Ext.drew1).cell 5,(M0.out.ext Ext.drew1).cell 1,(M0.out.ext Ext.drew1).cell 5⟩ (fun hHeld=>?_)
  have hx2:Ext u0 u0.drew:=Ext.drew1
  replace C0:=hJ (C0.out.ext hx2);replace M0:=hJ (M0.out.ext hx2);replace E0:=hJ (E0.out.trans hx2);replace O0:=hJ (O0.out.ext hx2);clear hx2
  generalize u0.drew=u1 at *
  refine E_t 0 4 ?_;refine E_t 1 5 ?_;refine E_t 2 6 ?_;refine E_t 3 7 ?_;refine E_t 4 8 ?_;refine E_s 5 9 ?_;refine E_s 6 10 ?_;refine E_s 7 11 ?_;refine E_s 8 12 ?_;refine E_s 9 13 ?_;refine E_t 10 14 ?_;refine E_t 11 15 ?_;refine E_s 12 16 ?_;refine E_s 13 17 ?_;refine E_s 14 18 ?_;refine E_s 15 19 ?_;refine E_s 16 20 ?_;refine E_s 17 21 ?_;refine E_s 18 22 ?_;refine E_s 19 23 ?_;refine E_s 20 24 ?_;refine E_s 21 25 ?_;refine E_s 22 26 ?_;refine E_s 23 27 ?_;refine E_s 24 28 ?_;refine E_s 25 29 ?_;refine E_t 26 30 ?_;refine E_t 27 31 ?_;refine E_s 28 32 ?_;refine E_s 29 33 ?_;refine E_s 30 34 ?_;refine E_s 31 35 ?_;refine E_s 32 36 ?_;refine E_s 33 37 ?_;refine E_s 34 38 ?_;refine E_s 35 39 ?_;refine E_s 36 40 ?_;refine E_s 37 41 ?_;refine E_s 38 42 ?_;refine E_s 39 43 ?_;refine E_s 40 44 ?_;refine E_s 41 45 ?_;refine E_t 42 46 ?_;refine qaE (by kernel_rfl) (by rfl) ?_
  exact qeR
 have h0':(0:Int)<(ents.length:Int):=by omega
 have h0e:¬ents=[]:=by intro e;rw[e] at h0;simp at h0
 cases v1
 ·refine qac 43 (fun w'=>Cq w' p 0 (Jq self)∧Cq w' p 3 (.slice Al log.length cl)∧Cq w' p 4 (Jq (sn:Int))∧Cq w' p 5 (Jq sent)∧w'.cell? (Pw w 1)=some (Jq num)∧w'.cell? (Pw w 5)=some (.slice Ae ents.length ce)) (by kernel_rfl) ⟨(C0.out.ext Ext.drew1).cell 0,(C0.out.ext Ext.drew1).cell 3,(C0.out.ext Ext.drew1).cell 4,(C0.out.ext Ext.drew1).cell 5,(M0.out.ext Ext.drew1).cell 1,(M0.out.ext Ext.drew1).cell 5⟩ (fun hHeld=>?_)
  have hx2:Ext u0 u0.drew:=Ext.drew1
  replace C0:=hJ (C0.out.ext hx2);replace M0:=hJ (M0.out.ext hx2);replace E0:=hJ (E0.out.trans hx2);replace O0:=hJ (O0.out.ext hx2);clear hx2
  generalize u0.drew=u1 at *
  refine E_t 0 4 ?_;refine E_t 1 5 ?_;refine E_t 2 6 ?_;refine E_t 3 7 ?_;refine E_t 4 8 ?_;refine E_t 5 9 ?_;refine E_t 6 10 ?_;refine E_t 7 11 ?_;refine E_t 8 12 ?_;refine E_r 9 (some 13) fun K hK=>?_
  go_simp;go_at_call 89;refine(qc4 Ae ce ents num _ O0.out (by omega) (fun e he=>Nat.le_trans (HEP.out e he) (by omega))).mono ?_
  rintro en w9 ⟨rfl,hx2⟩
  rw[HV1.out]
  replace C0:=hJ (C0.out.ext hx2);replace M0:=hJ (M0.out.ext hx2);replace E0:=hJ (E0.out.trans hx2);replace O0:=hJ (O0.out.ext hx2);clear hx2
  clear hHeld;refine hK.out _ _ ⟨C0.out.cell 0,C0.out.cell 3,C0.out.cell 4,C0.out.cell 5,M0.out.cell 1,M0.out.cell 5⟩ (fun hHeld=>?_)
  clear hK K;try simp only[Act.put,aP1,aP2,aP3]
  refine E_t 10 14 ?_;refine E_t 11 15 ?_;refine E_s 12 16 ?_;refine E_s 13 17 ?_;refine E_s 14 18 ?_;refine E_s 15 19 ?_;refine E_s 16 20 ?_;refine E_s 17 21 ?_;refine E_s 18 22 ?_;refine E_s 19 23 ?_;refine E_s 20 24 ?_;refine E_s 21 25 ?_;refine E_s 22 26 ?_;refine E_s 23 27 ?_;refine E_s 24 28 ?_;refine E_s 25 29 ?_;refine E_t 26 30 ?_;refine E_t 27 31 ?_;refine E_s 28 32 ?_;refine E_s 29 33 ?_;refine E_s 30 34 ?_;refine E_s 31 35 ?_;refine E_s 32 36 ?_;refine E_s 33 37 ?_;refine E_s 34 38 ?_;refine E_s 35 39 ?_;refine E_s 36 40 ?_;refine E_s 37 41 ?_;refine E_s 38 42 ?_;refine E_s 39 43 ?_;refine E_s 40 44 ?_;refine E_s 41 45 ?_;refine E_t 42 46 ?_;refine qaE (by kernel_rfl) (by rfl) ?_
  exact qeR
 cases v2
 ·refine qac 43 (fun w'=>Cq w' p 0 (Jq self)∧Cq w' p 3 (.slice Al log.length cl)∧Cq w' p 4 (Jq (sn:Int))∧Cq w' p 5 (Jq sent)∧w'.cell? (Pw w 1)=some (Jq num)∧w'.cell? (Pw w 5)=some (.slice Ae ents.length ce)) (by kernel_rfl) ⟨(C0.out.ext Ext.drew1).cell 0,(C0.out.ext Ext.drew1).cell 3,(C0.out.ext Ext.drew1).cell 4,(C0.out.ext Ext.drew1).cell 5,(M0.out.ext Ext.drew1).cell 1,(M0.out.ext Ext.drew1).cell 5⟩ (fun hHeld=>?_)
  have hx2:Ext u0 u0.drew:=Ext.drew1
  replace C0:=hJ (C0.out.ext hx2);replace M0:=hJ (M0.out.ext hx2);replace E0:=hJ (E0.out.trans hx2);replace O0:=hJ (O0.out.ext hx2);clear hx2
  generalize u0.drew=u1 at *
  refine E_t 0 4 ?_;refine E_t 1 5 ?_;refine E_t 2 6 ?_;refine E_t 3 7 ?_;refine E_t 4 8 ?_;refine E_t 5 9 ?_;refine E_t 6 10 ?_;refine E_t 7 11 ?_;refine E_t 8 12 ?_;refine E_r 9 (some 13) fun K hK=>?_
  go_simp;go_at_call 89;refine(qc4 Ae ce ents num _ O0.out (by omega) (fun e he=>Nat.le_trans (HEP.out e he) (by omega))).mono ?_
  rintro en w9 ⟨rfl,hx2⟩
  rw[HV1.out]
  replace C0:=hJ (C0.out.ext hx2);replace M0:=hJ (M0.out.ext hx2);replace E0:=hJ (E0.out.trans hx2);replace O0:=hJ (O0.out.ext hx2);clear hx2
  clear hHeld;refine hK.out _ _ ⟨C0.out.cell 0,C0.out.cell 3,C0.out.cell 4,C0.out.cell 5,M0.out.cell 1,M0.out.cell 5⟩ (fun hHeld=>?_)
  clear hK K;try simp only[Act.put,aP1,aP2,aP3]
  refine E_t 10 14 ?_;refine E_t 11 15 ?_;refine E_t 12 16 ?_;refine E_t 13 17 ?_;refine E_t 14 18 ?_;refine E_t 15 19 ?_;refine E_t 16 20 ?_;refine E_t 17 21 ?_;refine E_t 18 22 ?_;refine E_t 19 23 ?_;refine E_t 20 24 ?_;refine E_t 21 25 ?_;refine E_t 22 26 ?_;refine E_t 23 27 ?_;refine E_t 24 28 ?_;refine E_r 25 (some 29) fun K hK=>?_
  go_simp;go_at_call 130;refine(qcO Ae Al ce cl sn ents (log.take sn) _ O0.out (C0.out.lies.log.row.take_ents sn) (by omega) (by rw[List.length_take];omega) hk1).mono ?_
  rintro en w25 ⟨rfl,hx2⟩
  rw[HV2.out]
  replace C0:=hJ (C0.out.ext hx2);replace M0:=hJ (M0.out.ext hx2);replace E0:=hJ (E0.out.trans hx2);replace O0:=hJ (O0.out.ext hx2);clear hx2
  clear hHeld;refine hK.out _ _ ⟨C0.out.cell 0,C0.out.cell 3,C0.out.cell 4,C0.out.cell 5,M0.out.cell 1,M0.out.cell 5⟩ (fun hHeld=>?_)
  clear hK K;try simp only[Act.put,aP1,aP2,aP3]
  refine E_t 26 30 ?_;refine E_t 27 31 ?_;refine E_s 28 32 ?_;refine E_s 29 33 ?_;refine E_s 30 34 ?_;refine E_s 31 35 ?_;refine E_s 32 36 ?_;refine E_s 33 37 ?_;refine E_s 34 38 ?_;refine E_s 35 39 ?_;refine E_s 36 40 ?_;refine E_s 37 41 ?_;refine E_s 38 42 ?_;refine E_s 39 43 ?_;refine E_s 40 44 ?_;refine E_s 41 45 ?_;refine E_t 42 46 ?_;refine qaE (by kernel_rfl) (by rfl) ?_
  exact qeR
 by_cases hs:(on:Int)≤sent
 rotate_left
 ·have hs':decide ((on:Int)≤sent)=false:=by simpa using hs
  refine qac 43 (fun w'=>Cq w' p 0 (Jq self)∧Cq w' p 3 (.slice Al log.length cl)∧Cq w' p 4 (Jq (sn:Int))∧Cq w' p 5 (Jq sent)∧w'.cell? (Pw w 1)=some (Jq num)∧w'.cell? (Pw w 5)=some (.slice Ae ents.length ce)) (by kernel_rfl) ⟨(C0.out.ext Ext.drew1).cell 0,(C0.out.ext Ext.drew1).cell 3,(C0.out.ext Ext.drew1).cell 4,(C0.out.ext Ext.drew1).cell 5,(M0.out.ext Ext.drew1).cell 1,(M0.out.ext Ext.drew1).cell 5⟩ (fun hHeld=>?_)
  have hx2:Ext u0 u0.drew:=Ext.drew1
  replace C0:=hJ (C0.out.ext hx2);replace M0:=hJ (M0.out.ext hx2);replace E0:=hJ (E0.out.trans hx2);replace O0:=hJ (O0.out.ext hx2);clear hx2
  generalize u0.drew=u1 at *
  refine E_t 0 4 ?_;refine E_t 1 5 ?_;refine E_t 2 6 ?_;refine E_t 3 7 ?_;refine E_t 4 8 ?_;refine E_t 5 9 ?_;refine E_t 6 10 ?_;refine E_t 7 11 ?_;refine E_t 8 12 ?_;refine E_r 9 (some 13) fun K hK=>?_
  go_simp;go_at_call 89;refine(qc4 Ae ce ents num _ O0.out (by omega) (fun e he=>Nat.le_trans (HEP.out e he) (by omega))).mono ?_
  rintro en w9 ⟨rfl,hx2⟩
  rw[HV1.out]
  replace C0:=hJ (C0.out.ext hx2);replace M0:=hJ (M0.out.ext hx2);replace E0:=hJ (E0.out.trans hx2);replace O0:=hJ (O0.out.ext hx2);clear hx2
  clear hHeld;refine hK.out _ _ ⟨C0.out.cell 0,C0.out.cell 3,C0.out.cell 4,C0.out.cell 5,M0.out.cell 1,M0.out.cell 5⟩ (fun hHeld=>?_)
  clear hK K;try simp only[Act.put,aP1,aP2,aP3]
  refine E_t 10 14 ?_;refine E_t 11 15 ?_;refine E_t 12 16 ?_;refine E_t 13 17 ?_;refine E_t 14 18 ?_;refine E_t 15 19 ?_;refine E_t 16 20 ?_;refine E_t 17 21 ?_;refine E_t 18 22 ?_;refine E_t 19 23 ?_;refine E_t 20 24 ?_;refine E_t 21 25 ?_;refine E_t 22 26 ?_;refine E_t 23 27 ?_;refine E_t 24 28 ?_;refine E_r 25 (some 29) fun K hK=>?_
  go_simp;go_at_call 130;refine(qcO Ae Al ce cl sn ents (log.take sn) _ O0.out (C0.out.lies.log.row.take_ents sn) (by omega) (by rw[List.length_take];omega) hk1).mono ?_
  rintro en w25 ⟨rfl,hx2⟩
  rw[HV2.out]
  replace C0:=hJ (C0.out.ext hx2);replace M0:=hJ (M0.out.ext hx2);replace E0:=hJ (E0.out.trans hx2);replace O0:=hJ (O0.out.ext hx2);clear hx2
  clear hHeld;refine hK.out _ _ ⟨C0.out.cell 0,C0.out.cell 3,C0.out.cell 4,C0.out.cell 5,M0.out.cell 1,M0.out.cell 5⟩ (fun hHeld=>?_)
  clear hK K;try simp only[Act.put,aP1,aP2,aP3]
  refine E_t 26 30 ?_;refine E_t 27 31 ?_;refine E_t 28 32 ?_;refine E_t 29 33 ?_;refine E_t 30 34 ?_;refine E_t 31 35 ?_;refine E_t 32 36 ?_;refine E_t 33 37 ?_;refine E_t 34 38 ?_;refine E_t 36 40 ?_;refine E_t 37 41 ?_;refine E_t 38 42 ?_;refine E_t 39 43 ?_;refine E_t 40 44 ?_;refine E_r 35 (some 39) fun K hK=>?_
  go_simp;go_at_call 91;refine(qck Ae ce ents self _ O0.out (by omega)).mono ?_
  rintro en w35 ⟨rfl,hx2⟩
  rw[HON.out]
  replace C0:=hJ (C0.out.ext hx2);replace M0:=hJ (M0.out.ext hx2);replace E0:=hJ (E0.out.trans hx2);replace O0:=hJ (O0.out.ext hx2);clear hx2
  clear hHeld;refine hK.out _ _ ⟨C0.out.cell 0,C0.out.cell 3,C0.out.cell 4,C0.out.cell 5,M0.out.cell 1,M0.out.cell 5⟩ (fun hHeld=>?_)
  clear hK K;try simp only[Act.put,aP1,aP2,aP3]
  refine E_t 41 45 ?_;refine E_t 42 46 ?_;refine qaE (by kernel_rfl) (by rfl) ?_
  go_wp2;go_end0;rw[HR.out,if_neg (fun e=>by have:=e.2.2.2;omega)]
  exact⟨_,col,rfl,C0.out,rfl,Stp.ext' H.out.Bsz E0.out⟩
 have hs':decide ((on:Int)≤sent)=true:=by simpa using hs
 refine qac 43 (fun w'=>Cq w' p 0 (Jq self)∧Cq w' p 3 (.slice Al log.length cl)∧Cq w' p 4 (Jq (sn:Int))∧Cq w' p 5 (Jq sent)∧w'.cell? (Pw w 1)=some (Jq num)∧w'.cell? (Pw w 5)=some (.slice Ae ents.length ce)) (by kernel_rfl) ⟨(C0.out.ext Ext.drew1).cell 0,(C0.out.ext Ext.drew1).cell 3,(C0.out.ext Ext.drew1).cell 4,(C0.out.ext Ext.drew1).cell 5,(M0.out.ext Ext.drew1).cell 1,(M0.out.ext Ext.drew1).cell 5⟩ (fun hHeld=>?_)
 have hx2:Ext u0 u0.drew:=Ext.drew1
 replace C0:=hJ (C0.out.ext hx2);replace M0:=hJ (M0.out.ext hx2);replace E0:=hJ (E0.out.trans hx2);replace O0:=hJ (O0.out.ext hx2);clear hx2
 generalize u0.drew=u1 at *
 refine E_t 0 4 ?_;refine E_t 1 5 ?_;refine E_t 2 6 ?_;refine E_t 3 7 ?_;refine E_t 4 8 ?_;refine E_t 5 9 ?_;refine E_t 6 10 ?_;refine E_t 7 11 ?_;refine E_t 8 12 ?_;refine E_r 9 (some 13) fun K hK=>?_
 go_simp;go_at_call 89;refine(qc4 Ae ce ents num _ O0.out (by omega) (fun e he=>Nat.le_trans (HEP.out e he) (by omega))).mono ?_
 rintro en w9 ⟨rfl,hx2⟩
 rw[HV1.out]
 replace C0:=hJ (C0.out.ext hx2);replace M0:=hJ (M0.out.ext hx2);replace E0:=hJ (E0.out.trans hx2);replace O0:=hJ (O0.out.ext hx2);clear hx2
 clear hHeld;refine hK.out _ _ ⟨C0.out.cell 0,C0.out.cell 3,C0.out.cell 4,C0.out.cell 5,M0.out.cell 1,M0.out.cell 5⟩ (fun hHeld=>?_)
 clear hK K;try simp only[Act.put,aP1,aP2,aP3]
 refine E_t 10 14 ?_;refine E_t 11 15 ?_;refine E_t 12 16 ?_;refine E_t 13 17 ?_;refine E_t 14 18 ?_;refine E_t 15 19 ?_;refine E_t 16 20 ?_;refine E_t 17 21 ?_;refine E_t 18 22 ?_;refine E_t 19 23 ?_;refine E_t 20 24 ?_;refine E_t 21 25 ?_;refine E_t 22 26 ?_;refine E_t 23 27 ?_;refine E_t 24 28 ?_;refine E_r 25 (some 29) fun K hK=>?_
 go_simp;go_at_call 130;refine(qcO Ae Al ce cl sn ents (log.take sn) _ O0.out (C0.out.lies.log.row.take_ents sn) (by omega) (by rw[List.length_take];omega) hk1).mono ?_
 rintro en w25 ⟨rfl,hx2⟩
 rw[HV2.out]
 replace C0:=hJ (C0.out.ext hx2);replace M0:=hJ (M0.out.ext hx2);replace E0:=hJ (E0.out.trans hx2);replace O0:=hJ (O0.out.ext hx2);clear hx2
 clear hHeld;refine hK.out _ _ ⟨C0.out.cell 0,C0.out.cell 3,C0.out.cell 4,C0.out.cell 5,M0.out.cell 1,M0.out.cell 5⟩ (fun hHeld=>?_)
 clear hK K;try simp only[Act.put,aP1,aP2,aP3]
 refine E_t 26 30 ?_;refine E_t 27 31 ?_;refine E_t 28 32 ?_;refine E_t 29 33 ?_;refine E_t 30 34 ?_;refine E_t 31 35 ?_;refine E_t 32 36 ?_;refine E_t 33 37 ?_;refine E_t 34 38 ?_;refine E_t 36 40 ?_;refine E_t 37 41 ?_;refine E_t 38 42 ?_;refine E_t 39 43 ?_;refine E_t 40 44 ?_;refine E_r 35 (some 39) fun K hK=>?_
 go_simp;go_at_call 91;refine(qck Ae ce ents self _ O0.out (by omega)).mono ?_
 rintro en w35 ⟨rfl,hx2⟩
 rw[HON.out]
 replace C0:=hJ (C0.out.ext hx2);replace M0:=hJ (M0.out.ext hx2);replace E0:=hJ (E0.out.trans hx2);replace O0:=hJ (O0.out.ext hx2);clear hx2
 clear hHeld;refine hK.out _ _ ⟨C0.out.cell 0,C0.out.cell 3,C0.out.cell 4,C0.out.cell 5,M0.out.cell 1,M0.out.cell 5⟩ (fun hHeld=>?_)
 clear hK K;try simp only[Act.put,aP1,aP2,aP3]
 refine E_t 41 45 ?_;refine E_t 42 46 ?_;refine qaE (by kernel_rfl) (by rfl) ?_
 go_upto_region 2 with fail
 rw[if_pos ⟨h0,rfl,rfl,hs⟩] at HR
 have hne:w.heap.size≠p:=Nat.ne_of_gt hpl
 obtain⟨uE,rfl⟩:∃x,x=w35:=⟨_,rfl⟩
 refine qac 14 (fun w'=>w'.cell? (Pw w 1)=some (Jq num)∧w'.cell? (Pw w 5)=some (.slice Ae ents.length ce)) (by kernel_rfl) ⟨(M0.out.ext Ext.drew1).cell 1,(M0.out.ext Ext.drew1).cell 5⟩ (fun hHeld=>?_)
 have hx2:Ext uE uE.drew:=Ext.drew1
 replace C0:=hJ (C0.out.ext hx2);replace M0:=hJ (M0.out.ext hx2);replace E0:=hJ (E0.out.trans hx2);replace O0:=hJ (O0.out.ext hx2);clear hx2
 generalize uE.drew=u9 at *
 refine E_t 0 47 ?_;refine E_t 1 48 ?_;refine E_t 2 49 ?_;refine E_t 3 50 ?_;refine E_t 4 51 ?_;refine E_t 5 52 ?_;refine E_t 6 53 ?_;refine E_t 7 54 ?_;refine E_t 8 55 ?_;refine E_r 9 none fun K hK=>?_
 have y2:u9.cell? (Pq p 2)=some (Jq base):=C0.out.cell 2
 have f2:=C0.out.free 2
 go_simp;have BX1:Hid (BIs (u9.setCell (Pq p 2) (Jq num)) p (⟨⟨self,num,(sn:Int),sent,Av,cv,vs,Al,cl,log,Ap,cp,pend,Am,cm,marks,Af,cf,fls⟩,Ak,ck,pk,Ad,cd,dl⟩:CM).cells 86):=hJ (C0.out.box.set 2 _)
 have M1:Hid (BIs (u9.setCell (Pq p 2) (Jq num)) w.heap.size #[Jq kind,Jq num,Jq first,Jq mst,.string (qax pay),.slice Ae ents.length ce] 110):=hJ (M0.out.wrote hne (Wrote.set _ _ _ _))
 clear hHeld;refine hK.out _ _ ⟨M1.out.cell 1,M1.out.cell 5⟩ (fun hHeld=>?_)
 clear hK K;try simp only[Act.put,aP1,aP2,aP3]
 refine E_t 10 56 ?_;refine E_t 11 57 ?_;refine E_t 12 58 ?_;refine E_r 13 none fun K hK=>?_
 have y3:(u9.setCell (Pq p 2) (Jq num)).cell? (Pq p 3)=some (.slice Al log.length cl):=BX1.out.cell 3
 have f3:=BX1.out.free 3
 go_simp;have M2:Hid (BIs ((u9.setCell (Pq p 2) (Jq num)).setCell (Pq p 3) (.slice Ae ents.length ce)) w.heap.size #[Jq kind,Jq num,Jq first,Jq mst,.string (qax pay),.slice Ae ents.length ce] 110):=hJ (M1.out.wrote hne (Wrote.set _ _ _ _))
 clear hHeld;refine hK.out _ _ ⟨M2.out.cell 1,M2.out.cell 5⟩ (fun hHeld=>?_)
 clear hK K;try simp only[Act.put,aP1,aP2,aP3]
 refine qaE (by kernel_rfl) (by rfl) ?_
 go_wp2;go_end0;have hpc:col p=1:=H.out.pc
 have S4:Stp B [1] col u9 col ((u9.setCell (Pq p 2) (Jq num)).setCell (Pq p 3) (.slice Ae ents.length ce)):=Stp.wrote ((Wrote.set p 2 u9 _).trans (Wrote.set p 3 _ _)) H.out.bp C0.out.Bsz (by rw[hpc];simp)
 refine⟨⟨⟨self,num,(sn:Int),sent,Av,cv,vs,Ae,ce,ents,Ap,cp,pend,Am,cm,marks,Af,cf,fls⟩,Ak,ck,pk,Ad,cd,dl⟩,col,rfl,?_,?_,?_⟩
 ·have h:=C0.out
  have hf:=h.fits
  have x:=h.lies.relog S4 (by simp) (by simp) (by simp) (by simp) (S4.own (HO.out.ext E0.out) HCE.out (by simp)) (S4.colV (HO.out.ext E0.out) HCE.out)
  refine⟨BX1.out.set 3 _,hpc,h.bp,⟨x.vs,x.vc,x.vi,x.log,x.lc,x.pend,x.pc,x.marks,x.mc,x.fls,x.fc,x.fi⟩,S4.own h.pk h.kc (by simp),S4.colV h.pk h.kc,h.kiK S4 (by simp),S4.own h.dl h.dc (by simp),S4.colV h.dl h.dc,?_,h.cp⟩
  exact⟨hf.vs,hf.vx,by show ents.length≤100000;omega,fun e he=>Nat.le_trans (HEP.out e he) (by omega),hf.pend,hf.pp,hf.marks,hf.fls,hf.fl,hk1,hk2⟩
 ·rw[HR.out];rfl
 ·exact((Stp.ext (cs:=[1]) H.out.Bsz E0.out (fun _ _=>rfl)).trans S4).mono (cs':=[1,2,3,4,5,7]) (by simp)
end Go.Proofs.YtponbabbabnaeaaGreat
