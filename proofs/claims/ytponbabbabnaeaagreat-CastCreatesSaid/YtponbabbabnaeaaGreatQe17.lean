/- Part 17 of the proof: contracts of functions that the statement reaches. Conditions: as each theorem says. -/
import Derived.Test.YtponbabbabnaeaaGreatQe01
import Derived.Test.YtponbabbabnaeaaGreatQe16
import Derived.Test.YtponbabbabnaeaaGreatQe14
import Derived.Test.YtponbabbabnaeaaGreatQe10
set_option maxRecDepth 100000
namespace Go.Proofs.YtponbabbabnaeaaGreat
open Go.RowKit
theorem qii {P : Prop} (h : P := by
 refine(qmT H.out HM.out OK4.out HCV.out S3.out HO4.out BX4.out W34.out hBg hll.out hNl hpc.out HR.out hdl).mono ?_
 rintro en w9 ⟨m9,col9,rfl,hc9,hm9,hs9⟩
 go_wp2;go_end0;exact⟨m9,col9,rfl,hc9,hm9,hs9⟩) : P := h
theorem qpJ{l:List (Int×Int)}{fr n b:Int}{k:Nat}(hs:qeG l fr=k)(h:l[k]?=some (fr,b)):qhj l fr n=l.set k (fr,max b n):=by
 unfold qhj
 rw[hs,h];simp
theorem qoY{l:List (Int×Int)}{fr n:Int}{k:Nat}{x:Int×Int}(hs:qeG l fr=k)(h:l[k]?=some x)(hx:x.1≠fr):qhj l fr n=l.take k++(fr,max 0 n)::l.drop k:=by
 unfold qhj
 rw[hs,h]
 obtain⟨a,b⟩:=x
 simp only at hx⊢
 rw[if_neg hx]
theorem qri{l:List (Int×Int)}{fr n:Int}(hs:qeG l fr=l.length):qhj l fr n=l++[(fr,max 0 n)]:=by
 unfold qhj
 rw[hs,List.getElem?_eq_none (Nat.le_refl _)]
theorem qrC{l:List (Int×Int)}{fr n:Int}{y:Int×Int}(h:y∈qhj l fr n):y∈l∨∃b,(b=0∨∃a,(a,b)∈l)∧y=(fr,max b n):=by
 unfold qhj at h
 split at h
 ·next a b hx=>
  by_cases he:a=fr
  ·rw[if_pos he] at h
   rcases List.mem_or_eq_of_mem_set h with h|h
   ·exact .inl h
   ·exact .inr ⟨b,.inr ⟨a,List.mem_of_getElem? hx⟩,by rw[h,he]⟩
  ·rw[if_neg he] at h
   rcases qfT h with h|h
   ·exact .inr ⟨0,.inl rfl,h⟩
   ·exact .inl h
 ·rcases List.mem_append.1 h with h|h
  ·exact .inl h
  ·exact .inr ⟨0,.inl rfl,by simpa using h⟩
theorem qq2{s:St}(h:OkS s){fr n:Int}(hn:¬(s.log.length:Int)<n):OkS {s with marks:=qhj s.marks fr n}:=by
 refine⟨h.vs,h.st0,h.st1,h.own,h.sent,h.pend,h.pn,h.log,h.lp,h.pp,fun y hy=>?_,h.mem⟩
 rcases qrC hy with hy|⟨b,hb,rfl⟩
 ·exact h.mks y hy
 ·simp only
  rcases hb with rfl|⟨a,hb⟩
  ·omega
  ·have:=h.mks _ hb
   simp only at this
   omega
theorem qr1{α:Type}{l:List α}{k:Nat}{x:α}{r:List α}(h:k≤l.length):(l.take k++x::r)[k]?=some x:=by
 rw[List.getElem?_append_right (by rw[List.length_take];omega),List.length_take,Nat.min_eq_left h];simp
theorem qrs{α:Type}{l:List α}{k:Nat}{x y:α}{r:List α}(h:k≤l.length):(l.take k++x::r).set k y=l.take k++y::r:=by
 rw[List.set_append_right _ _ (by rw[List.length_take];omega),List.length_take,Nat.min_eq_left h];simp
theorem qgS{w:World}{B g c k:Nat}{l:List (Int×Int)}{x:Int×Int}(h:qao.Own w B (.slice (some (Pq g 0)) l.length c) l)(hx:l[k]?=some x):w.cell? (Pq g (k*2+1))=some (Jq x.2):=by
 obtain⟨b,off,y,hA,hb,c0,c1,HX⟩:=qfh h.row (List.getElem?_eq_some_iff.1 hx).1
 cases hA
 rw[hx] at HX
 have:=HX.out;cases this
 simpa using c1
theorem qgG{w:World}{B g c k:Nat}{l:List (Int×Int)}(h:qao.Own w B (.slice (some (Pq g 0)) l.length c) l)(hk:k<l.length)(i:Nat):w.frozen? (Pq g i)=false:=by
 obtain⟨g',c',hg',_,_,_,_,hfz⟩:=qcH h (by omega)
 cases hg'
 exact hfz i
theorem qmT{B p g c2:Nat}{col col':Nat→Nat}{w w3 w4:World}{m M:CM}{fr n:Int}{MK NM:List (Int×Int)}(h:CS w B col p M)(hm:M=m)(ok:OkS ({m.b with Am:=some (Pq g 0),cm:=c2,marks:=NM}:BM).st)
  (hcv:ColV col' 3 (.slice (some (Pq g 0)) MK.length c2)) (s3:Stp B [1,3] col w col' w3) (ho:qao.Own w4 B (.slice (some (Pq g 0)) NM.length c2) NM) (bx:BIs w4 p ({m with b:={m.b with Am:=some (Pq g 0),cm:=c2,marks:=NM}}:CM).cells 86)
  (w34:Wrote g w3 w4) (hBg:B≤g) (hll:MK.length=NM.length) (hNl:NM.length≤50001) (hpc:col' p=1) (hr:qcC M.cs fr n=qap {m.cs with s:={m.cs.s with marks:=NM}}) (hdl:m.dl.length≤100000) :
  Calls Tryz.prog 118 #[.pointer (some (Pq p 0))] w4.drew (qhw B col p w (qcC M.cs fr n)):=by
 subst hm
 have s4:Stp B [1,3] col w col' w4:=s3.trans (Stp.wrote w34 hBg (Nat.le_trans h.Bsz s3.size) (by rw[hcv g rfl];simp))
 have hf:=h.fits
 have c4:CS w4 B col' p {M with b:={M.b with Am:=some (Pq g 0),cm:=c2,marks:=NM}}:=by
  refine⟨bx,hpc,h.bp,h.lies.remarks s4 (by simp) (by simp) (by simp) (by simp) ho (by rw[←hll];exact hcv),s4.own h.pk h.kc (by simp),s4.colV h.pk h.kc,h.kiK s4 (by simp),s4.own h.dl h.dc (by simp),s4.colV h.dl h.dc,?_,h.cp⟩
  exact⟨hf.vs,hf.vx,hf.log,hf.lp,hf.pend,hf.pp,by simp only;omega,hf.fls,hf.fl,hf.cl⟩
 refine(qfY _ B _ p _ (c4.ext Ext.drew1) (by have:=ok.vs;simpa[BM.st,qaI] using this) ok.st0 (fun x hx=>(ok.mks x hx).2) hdl (qep ok).1 (fun n _=>qn8 ok n)).mono ?_
 rintro en w9 ⟨m9,col9,rfl,hc9,hm9,hs9⟩
 rw[hr]
 exact⟨m9,col9,rfl,hc9,hm9,(s4.mono (cs':=[1,2,3,4,5,7]) (by simp)).trans ((Stp.ext' c4.Bsz Ext.drew1).trans hs9)⟩
set_option maxHeartbeats 1000000 in
theorem qnj(m:CM)(B:Nat)(col:Nat→Nat)(p:Nat)(fr n:Int)(w:World)(h:CS w B col p m)(ok:OkS m.b.st)(hdl:m.dl.length≤100000)(hmn:m.b.marks.length≤50000) :
  Calls Tryz.prog 144 #[.pointer (some (Pq p 0)),Jq fr,Jq n] w (qhw B col p w (qcC m.cs fr n)):=by
 have H:=hJ h;have OK:=hJ ok
 have hpl:=h.lt
 have q3:=h.cell 3;have q7:=h.cell 7;have fz7:=h.free 7
 have hfl:=h.fits.log
 obtain⟨Am',cm',hv,hk1,hk2,_⟩:=qhv h.lies.marks
 simp only[Value.slice.injEq,true_and] at hv
 obtain⟨hAm,hcm⟩:=hv
 rw[←hcm] at hk1 hk2
 clear h ok hcm hAm;obtain⟨M,hM⟩:∃x,x=m:=⟨_,rfl⟩
 have HM:=hJ hM
 rw[←hM] at H OK⊢
 clear hM;obtain⟨⟨self,base,stable,sent,Av,cv,vs,Al,cl,log,Ap,cp,pend,Am,cm,marks,Af,cf,fls⟩,Ak,ck,pk,Ad,cd,dl⟩:=m
 simp only at hk1 hk2 hfl hdl hmn
 replace q3:w.cell? (Pq p 3)=some (.slice Al log.length cl):=q3
 replace q7:w.cell? (Pq p 7)=some (.slice Am marks.length cm):=q7
 by_cases hn:(log.length:Int)<n
 ·have HR:Hid (qcC M.cs fr n=M.cs):=hJ (by unfold qcC;rw[HM.out];exact if_pos hn)
  have hd:decide ((log.length:Int)<n)=true:=by simpa using hn
  clear hn;go_enter Tryz.func144,Tryz.ntmps144
  go_wp2;(try simp only[Exit.inBlock,Exit.then]);refine bodyPost_ret (results_none rfl _ _ _) rfl ?_
  rw[HR.out]
  exact⟨M,col,rfl,H.out,rfl,Stp.refl _ _ _ _⟩
 ·have hd:decide ((log.length:Int)<n)=false:=by simpa using hn
  obtain⟨NM,hNM⟩:∃l,l=qhj marks fr n:=⟨_,rfl⟩
  have HNM:=hJ hNM
  have HR:Hid (qcC M.cs fr n=qap {(⟨⟨self,base,stable,sent,Av,cv,vs,Al,cl,log,Ap,cp,pend,Am,cm,marks,Af,cf,fls⟩,Ak,ck,pk,Ad,cd,dl⟩:CM).cs with s:={(⟨⟨self,base,stable,sent,Av,cv,vs,Al,cl,log,Ap,cp,pend,Am,cm,marks,Af,cf,fls⟩,Ak,ck,pk,Ad,cd,dl⟩:CM).cs.s with marks:=NM}}):=hJ (by
   unfold qcC;rw[HM.out,hNM];exact if_neg hn)
  clear hNM;have OK4:∀(g c2:Nat),Hid (OkS (⟨self,base,stable,sent,Av,cv,vs,Al,cl,log,Ap,cp,pend,(some (Pq g 0)),c2,NM,Af,cf,fls⟩:BM).st):=fun g c2=>hJ (by
   have ok:=OK.out
   rw[HM.out] at ok
   rw[HNM.out]
   exact qq2 ok (by simpa[BM.st] using hn))
  have HN:=hJ hn
  clear hn;have HMR:Hid (Row w Am (qao.cells marks)):=hJ (by have:=H.out.lies.marks.row;rw[HM.out] at this;exact this)
  have HMO:Hid (qao.Own w B (.slice Am marks.length cm) marks):=hJ (by have:=H.out.lies.marks;rw[HM.out] at this;exact this)
  have HMC:Hid (ColV col 3 (.slice Am marks.length cm)):=hJ (by have:=H.out.lies.mc;rw[HM.out] at this;exact this)
  have HBX:Hid (BIs w p (⟨⟨self,base,stable,sent,Av,cv,vs,Al,cl,log,Ap,cp,pend,Am,cm,marks,Af,cf,fls⟩,Ak,ck,pk,Ad,cd,dl⟩:CM).cells 86):=hJ (by have:=H.out.box;rw[HM.out] at this;exact this)
  have HPC:Hid (col p=1):=hJ H.out.pc
  have E0:Hid (Ext w (w.alloc (.cells #[Jq fr,Jq 0] 123))):=hJ (Ext.new _ _)
  have G0:Hid (BIs (w.alloc (.cells #[Jq fr,Jq 0] 123)) w.heap.size (qao.f (fr,0)).toArray 123):=hJ (BIs.new _ _ _)
  have HGN:Hid (∀k,(Value.slice Am marks.length cm).ownBlock=some k→k≠w.heap.size):=hJ (fun k hk=>by have:=(HMO.out.lt k hk).2;omega)
  go_enter Tryz.func144,Tryz.ntmps144
  go_wp2;go_loopw [6] (fun i wr=>∃k:Nat,k≤marks.length∧i=Jq (k:Int)∧Hid (∀i y,i<k→marks[i]?=some y→y.1<fr)∧w=wr) (fun i _=>marks.length - (intOf i).toNat)
  case atStart=>exact⟨0,Nat.zero_le _,rfl,hJ (fun i y hi=>absurd hi (Nat.not_lt_zero _)),rfl⟩
  case round=>
   obtain⟨k,hk,rfl,HK,rfl⟩:=hrel
   by_cases hlt:k<marks.length
   ·obtain⟨b,off,x,hA,hb,c0,c1,HX⟩:=qfh HMR.out hlt
    obtain⟨g0,cg,hgv,_,_,hBg,hgs,hfz⟩:=qcH HMO.out (by omega)
    simp only[Value.slice.injEq,true_and] at hgv
    obtain⟨hAg,rfl⟩:=hgv
    rw[hAg] at hA
    simp only[Option.some.injEq,Addr.mk.injEq,and_true] at hA
    obtain⟨rfl,rfl⟩:=hA
    simp only[Nat.zero_add] at c0 c1
    subst hAg
    by_cases hx:x.1<fr
    ·have hx1:decide (x.1<fr)=true:=by simpa using hx
     have HK':Hid (∀i y,i<k+1→marks[i]?=some y→y.1<fr):=hJ (fun i y hi hy=>by
      rcases Nat.lt_or_ge i k with h1|h1
      ·exact HK.out i y h1 hy
      ·have:i=k:=by omega
       subst this
       rw[HX.out] at hy;cases hy;exact hx)
     clear hx;go_wp2;go_roundw
     case rel=>exact⟨k+1,by omega,by go_num,HK',by first|trivial|rfl⟩
     case measure=>simp[intOf];omega
    ·have hx1:decide (x.1<fr)=false:=by simpa using hx
     have HS:Hid (qeG marks fr=k):=hJ (qlw HK.out hk (fun y hy=>by rw[HX.out] at hy;cases hy;exact hx))
     by_cases he:x.1=fr
     ·have hx2:(x.1 == fr)=true:=by simpa using he
      have hx3:(x.1 != fr)=false:=by simpa using he
      obtain⟨x0,n0⟩:=x
      simp only at he
      subst he
      have HSET:Hid (marks.set k (x0,max n0 n)=NM):=hJ (by rw[HNM.out,qpJ HS.out HX.out])
      have hmx:=HX
      have hml2:marks.length≤50001:=by omega
      have hkm:k<marks.length:=hlt
      have HCV:=HMC;have HO3:=HMO;have BX3:=HBX;have hpc:=HPC
      have S3:Hid (Stp B [1,3] col w col w):=hJ (Stp.refl _ _ _ _)
      obtain⟨g,rfl⟩:∃x,x=g0:=⟨_,rfl⟩
      have hgp:g≠p:=fun e=>by have:=HCV.out g rfl;rw[e,hpc.out] at this;cases this
      have OK4:=OK4 g cm
      clear hx hfz;go_upto_region 6 with fail
      clear q3 q7 fz7 hd;have r7:w.cell? (Pq p 7)=some (.slice (some (Pq g 0)) marks.length cm):=BX3.out.cell 7
      have rg:w.cell? (Pq g (k*2+1))=some (Jq n0):=qgS HO3.out hmx.out
      have fzg:=qgG HO3.out hkm (k*2+1)
      have hpl3:p<w.heap.size:=BX3.out.lt
      have hgl3:g<w.heap.size:=(HO3.out.lt g rfl).2
      go_wp2;refine qac 17 (fun w'=>Cq w' p 7 (.slice (some (Pq g 0)) marks.length cm)∧Cq w' g (k*2+1) (Jq n0)) (by kernel_rfl) ⟨r7,rg⟩ (fun hHeld=>?_)
      refine E_t 0 73 ?_;refine E_t 1 74 ?_;refine E_t 2 75 ?_;refine E_t 3 76 ?_;refine E_t 4 77 ?_;refine E_t 5 78 ?_;refine E_t 6 79 ?_;refine E_t 7 80 ?_;refine E_t 8 81 ?_;refine E_t 9 82 ?_;refine E_t 10 83 ?_;refine E_t 11 84 ?_;refine E_t 12 85 ?_;refine E_t 13 86 ?_;refine E_t 14 87 ?_;refine E_t 15 88 ?_;refine E_t 16 89 ?_;refine qbc (by rfl) (by kernel_rfl) ?_
      go_wp2_with fail
      have W34:Hid (Wrote g w (w.setCell (Pq g (k*2+1)) (Jq (max n0 n)))):=hJ (Wrote.set _ _ _ _)
      have hll:Hid (marks.length=NM.length):=hJ (by rw[←HSET.out,List.length_set])
      have hNl:NM.length≤50001:=by rw[←hll.out];exact hml2
      have HO4:Hid (qao.Own (w.setCell (Pq g (k*2+1)) (Jq (max n0 n))) B (.slice (some (Pq g 0)) NM.length cm) NM):=hJ (by
       have:=qhf (max n0 n) HO3.out hmx.out
       simp only at this
       rw[HSET.out,hll.out] at this
       exact this)
      have BX4:Hid (BIs (w.setCell (Pq g (k*2+1)) (Jq (max n0 n))) p (⟨⟨self,base,stable,sent,Av,cv,vs,Al,cl,log,Ap,cp,pend,(some (Pq g 0)),cm,NM,Af,cf,fls⟩,Ak,ck,pk,Ad,cd,dl⟩:CM).cells 86):=hJ (by
       have:=W34.out.bis BX3.out (Ne.symm hgp)
       simp only[CM.cells,hll.out] at this
       exact this)
      clear r7 rg fzg hHeld;generalize w.setCell (Pq g (k*2+1)) (Jq (max n0 n))=w4 at *
      exact qii
     ·have hx2:(x.1 == fr)=false:=by simpa using he
      have hx3:(x.1 != fr)=true:=by simpa using he
      have HA:Hid (qhj marks fr n=marks.take k++(fr,max 0 n)::marks.drop k):=hJ (qoY HS.out HX.out he)
      clear hx he hfz;go_wp2_with fail
      refine(qpn B (some (Pq g0 0)) cm marks (fr,0) k _ (HMO.out.ext E0.out) (Nat.le_trans H.out.Bsz E0.out.size) w.heap.size 1 G0.out HGN.out hlt (by omega)).mono ?_
      rintro en w2 ⟨v2,rfl,ho2,hg2,hs2⟩
      obtain⟨MK,hMK⟩:∃l,l=marks.take k++(fr,(0:Int))::marks.drop k:=⟨_,rfl⟩
      rw[←hMK] at ho2
      have hml:MK.length=marks.length+1:=by rw[hMK];simp;omega
      have hml2:MK.length≤50001:=by omega
      have hkm:k<MK.length:=by omega
      have hmx:Hid (MK[k]?=some (fr,0)):=hJ (by rw[hMK];exact qr1 hk)
      have HSET:Hid (MK.set k (fr,max 0 n)=NM):=hJ (by rw[HNM.out,HA.out,hMK];exact qrs hk)
      have HML:=hJ hml
      clear hMK hml;obtain⟨g,c2,rfl,h21,h22,hBg,hgs,hfz⟩:=qcH ho2 (by omega)
      clear hfz;have HO2:=hJ ho2
      have HCV:Hid (ColV (qai col w.heap.size 3) 3 (.slice (some (Pq g 0)) MK.length c2)):=hJ (qcj hs2 HMC.out E0.out.size (fun q hq=>(HMO.out.lt q hq).2))
      have S2:Hid (Stp B [3] col w (qai col w.heap.size 3) w2):=hJ ((Stp.ext (cs:=[3]) H.out.Bsz E0.out (fun k hk=>qah hk)).trans (Stp.grew hg2 (Nat.le_trans H.out.Bsz E0.out.size) (fun k hk=>(HMO.out.lt k hk).1) (c:=3) (HMC.out.old HMO.out (fun k hk=>qah hk)) (by simp)))
      have hpc:Hid ((qai col w.heap.size 3) p=1):=hJ (by rw[qah H.out.lt];exact H.out.pc)
      have hgp:g≠p:=fun e=>by have:=HCV.out g rfl;rw[e,hpc.out] at this;cases this
      have BX2:Hid (BIs w2 p (⟨⟨self,base,stable,sent,Av,cv,vs,Al,cl,log,Ap,cp,pend,(some (Pq g0 0)),cm,marks,Af,cf,fls⟩,Ak,ck,pk,Ad,cd,dl⟩:CM).cells 86):=hJ (S2.out.bis HBX.out (by rw[HPC.out];simp))
      have k7:w2.cell? (Pq p 7)=some (.slice (some (Pq g0 0)) marks.length cm):=BX2.out.cell 7
      have fz2:=BX2.out.free 7
      have hpl2:p<w2.heap.size:=BX2.out.lt
      clear ho2 hg2 hs2 q3 q7 fz7 hd;go_upto_region 6 with fail
      have W23:Hid (Wrote p w2 (w2.setCell (Pq p 7) (.slice (some (Pq g 0)) MK.length c2))):=hJ (Wrote.set _ _ _ _)
      have BX3:Hid (BIs (w2.setCell (Pq p 7) (.slice (some (Pq g 0)) MK.length c2)) p (⟨⟨self,base,stable,sent,Av,cv,vs,Al,cl,log,Ap,cp,pend,(some (Pq g 0)),c2,MK,Af,cf,fls⟩,Ak,ck,pk,Ad,cd,dl⟩:CM).cells 86):=hJ (BX2.out.set 7 _)
      have HO3:Hid (qao.Own (w2.setCell (Pq p 7) (.slice (some (Pq g 0)) MK.length c2)) B (.slice (some (Pq g 0)) MK.length c2) MK):=hJ (HO2.out.set_other (fun k hk=>by cases hk;exact hgp) _)
      clear k7 fz2;generalize w2.setCell (Pq p 7) (.slice (some (Pq g 0)) MK.length c2)=w3 at *
      have S3:Hid (Stp B [1,3] col w (qai col w.heap.size 3) w3):=hJ ((S2.out.mono (by simp)).trans (Stp.wrote W23.out H.out.bp (Nat.le_trans H.out.Bsz S2.out.size) (by rw[hpc.out];simp)))
      have OK4:=OK4 g c2
      have r7:w3.cell? (Pq p 7)=some (.slice (some (Pq g 0)) MK.length c2):=BX3.out.cell 7
      have rg:w3.cell? (Pq g (k*2+1))=some (Jq 0):=qgS HO3.out hmx.out
      have fzg:=qgG HO3.out hkm (k*2+1)
      have hpl3:p<w3.heap.size:=BX3.out.lt
      have hgl3:g<w3.heap.size:=(HO3.out.lt g rfl).2
      go_wp2;refine qac 17 (fun w'=>Cq w' p 7 (.slice (some (Pq g 0)) MK.length c2)∧Cq w' g (k*2+1) (Jq 0)) (by kernel_rfl) ⟨r7,rg⟩ (fun hHeld=>?_)
      refine E_t 0 73 ?_;refine E_t 1 74 ?_;refine E_t 2 75 ?_;refine E_t 3 76 ?_;refine E_t 4 77 ?_;refine E_t 5 78 ?_;refine E_t 6 79 ?_;refine E_t 7 80 ?_;refine E_t 8 81 ?_;refine E_t 9 82 ?_;refine E_t 10 83 ?_;refine E_t 11 84 ?_;refine E_t 12 85 ?_;refine E_t 13 86 ?_;refine E_t 14 87 ?_;refine E_t 15 88 ?_;refine E_t 16 89 ?_;refine qbc (by rfl) (by kernel_rfl) ?_
      go_wp2_with fail
      have W34:Hid (Wrote g w3 (w3.setCell (Pq g (k*2+1)) (Jq (max 0 n)))):=hJ (Wrote.set _ _ _ _)
      have hll:Hid (MK.length=NM.length):=hJ (by rw[←HSET.out,List.length_set])
      have hNl:NM.length≤50001:=by rw[←hll.out];exact hml2
      have HO4:Hid (qao.Own (w3.setCell (Pq g (k*2+1)) (Jq (max 0 n))) B (.slice (some (Pq g 0)) NM.length c2) NM):=hJ (by
       have:=qhf (max 0 n) HO3.out hmx.out
       simp only at this
       rw[HSET.out,hll.out] at this
       exact this)
      have BX4:Hid (BIs (w3.setCell (Pq g (k*2+1)) (Jq (max 0 n))) p (⟨⟨self,base,stable,sent,Av,cv,vs,Al,cl,log,Ap,cp,pend,(some (Pq g 0)),c2,NM,Af,cf,fls⟩,Ak,ck,pk,Ad,cd,dl⟩:CM).cells 86):=hJ (by
       have:=W34.out.bis BX3.out (Ne.symm hgp)
       simp only[CM.cells,hll.out] at this
       exact this)
      clear r7 rg fzg hHeld;generalize w3.setCell (Pq g (k*2+1)) (Jq (max 0 n))=w4 at *
      exact qii
   ·have hkl:k=marks.length:=by omega
    have HS:Hid (qeG marks fr=marks.length):=hJ (hkl▸qlw HK.out hk (fun y hy=>by rw[List.getElem?_eq_none (by omega)] at hy;cases hy))
    have HA:Hid (qhj marks fr n=marks++[(fr,max 0 n)]):=hJ (qri HS.out)
    subst hkl
    go_wp2_with fail
    refine(qlC B Am cm marks (fr,0) _ (HMO.out.ext E0.out) (Nat.le_trans H.out.Bsz E0.out.size) w.heap.size 1 (qnC fr 0 w) (by omega) ⟨hk1,hk2⟩).mono ?_
    rintro en w2 ⟨v2,rfl,ho2,hg2,hs2⟩
    obtain⟨MK,hMK⟩:∃l,l=marks++[(fr,(0:Int))]:=⟨_,rfl⟩
    rw[←hMK] at ho2
    have hml:MK.length=marks.length+1:=by rw[hMK];simp
    have hml2:MK.length≤50001:=by omega
    have hkm:marks.length<MK.length:=by omega
    have hmx:Hid (MK[marks.length]?=some (fr,0)):=hJ (by rw[hMK];simp)
    have HSET:Hid (MK.set marks.length (fr,max 0 n)=NM):=hJ (by rw[HNM.out,HA.out,hMK];simp)
    have HML:=hJ hml
    clear hMK hml;obtain⟨g,c2,rfl,h21,h22,hBg,hgs,hfz⟩:=qcH ho2 (by omega)
    clear hfz;have HO2:=hJ ho2
    have HCV:Hid (ColV (qai col w.heap.size 3) 3 (.slice (some (Pq g 0)) MK.length c2)):=hJ (qcj hs2 HMC.out E0.out.size (fun q hq=>(HMO.out.lt q hq).2))
    have S2:Hid (Stp B [3] col w (qai col w.heap.size 3) w2):=hJ ((Stp.ext (cs:=[3]) H.out.Bsz E0.out (fun k hk=>qah hk)).trans (Stp.grew hg2 (Nat.le_trans H.out.Bsz E0.out.size) (fun k hk=>(HMO.out.lt k hk).1) (c:=3) (HMC.out.old HMO.out (fun k hk=>qah hk)) (by simp)))
    have hpc:Hid ((qai col w.heap.size 3) p=1):=hJ (by rw[qah H.out.lt];exact H.out.pc)
    have hgp:g≠p:=fun e=>by have:=HCV.out g rfl;rw[e,hpc.out] at this;cases this
    have BX2:Hid (BIs w2 p (⟨⟨self,base,stable,sent,Av,cv,vs,Al,cl,log,Ap,cp,pend,Am,cm,marks,Af,cf,fls⟩,Ak,ck,pk,Ad,cd,dl⟩:CM).cells 86):=hJ (S2.out.bis HBX.out (by rw[HPC.out];simp))
    have k7:w2.cell? (Pq p 7)=some (.slice Am marks.length cm):=BX2.out.cell 7
    have fz2:=BX2.out.free 7
    have hpl2:p<w2.heap.size:=BX2.out.lt
    clear ho2 hg2 hs2 q3 q7 fz7 hd;go_upto_region 6 with fail
    have W23:Hid (Wrote p w2 (w2.setCell (Pq p 7) (.slice (some (Pq g 0)) MK.length c2))):=hJ (Wrote.set _ _ _ _)
    have BX3:Hid (BIs (w2.setCell (Pq p 7) (.slice (some (Pq g 0)) MK.length c2)) p (⟨⟨self,base,stable,sent,Av,cv,vs,Al,cl,log,Ap,cp,pend,(some (Pq g 0)),c2,MK,Af,cf,fls⟩,Ak,ck,pk,Ad,cd,dl⟩:CM).cells 86):=hJ (BX2.out.set 7 _)
    have HO3:Hid (qao.Own (w2.setCell (Pq p 7) (.slice (some (Pq g 0)) MK.length c2)) B (.slice (some (Pq g 0)) MK.length c2) MK):=hJ (HO2.out.set_other (fun k hk=>by cases hk;exact hgp) _)
    clear k7 fz2;generalize w2.setCell (Pq p 7) (.slice (some (Pq g 0)) MK.length c2)=w3 at *
    have S3:Hid (Stp B [1,3] col w (qai col w.heap.size 3) w3):=hJ ((S2.out.mono (by simp)).trans (Stp.wrote W23.out H.out.bp (Nat.le_trans H.out.Bsz S2.out.size) (by rw[hpc.out];simp)))
    have OK4:=OK4 g c2
    have r7:w3.cell? (Pq p 7)=some (.slice (some (Pq g 0)) MK.length c2):=BX3.out.cell 7
    have rg:w3.cell? (Pq g (marks.length*2+1))=some (Jq 0):=qgS HO3.out hmx.out
    have fzg:=qgG HO3.out hkm (marks.length*2+1)
    have hpl3:p<w3.heap.size:=BX3.out.lt
    have hgl3:g<w3.heap.size:=(HO3.out.lt g rfl).2
    go_wp2;refine qac 17 (fun w'=>Cq w' p 7 (.slice (some (Pq g 0)) MK.length c2)∧Cq w' g (marks.length*2+1) (Jq 0)) (by kernel_rfl) ⟨r7,rg⟩ (fun hHeld=>?_)
    refine E_t 0 73 ?_;refine E_t 1 74 ?_;refine E_t 2 75 ?_;refine E_t 3 76 ?_;refine E_t 4 77 ?_;refine E_t 5 78 ?_;refine E_t 6 79 ?_;refine E_t 7 80 ?_;refine E_t 8 81 ?_;refine E_t 9 82 ?_;refine E_t 10 83 ?_;refine E_t 11 84 ?_;refine E_t 12 85 ?_;refine E_t 13 86 ?_;refine E_t 14 87 ?_;refine E_t 15 88 ?_;refine E_t 16 89 ?_;refine qbc (by rfl) (by kernel_rfl) ?_
    go_wp2_with fail
    have W34:Hid (Wrote g w3 (w3.setCell (Pq g (marks.length*2+1)) (Jq (max 0 n)))):=hJ (Wrote.set _ _ _ _)
    have hll:Hid (MK.length=NM.length):=hJ (by rw[←HSET.out,List.length_set])
    have hNl:NM.length≤50001:=by rw[←hll.out];exact hml2
    have HO4:Hid (qao.Own (w3.setCell (Pq g (marks.length*2+1)) (Jq (max 0 n))) B (.slice (some (Pq g 0)) NM.length c2) NM):=hJ (by
     have:=qhf (max 0 n) HO3.out hmx.out
     simp only at this
     rw[HSET.out,hll.out] at this
     exact this)
    have BX4:Hid (BIs (w3.setCell (Pq g (marks.length*2+1)) (Jq (max 0 n))) p (⟨⟨self,base,stable,sent,Av,cv,vs,Al,cl,log,Ap,cp,pend,(some (Pq g 0)),c2,NM,Af,cf,fls⟩,Ak,ck,pk,Ad,cd,dl⟩:CM).cells 86):=hJ (by
     have:=W34.out.bis BX3.out (Ne.symm hgp)
     simp only[CM.cells,hll.out] at this
     exact this)
    clear r7 rg fzg hHeld;generalize w3.setCell (Pq g (marks.length*2+1)) (Jq (max 0 n))=w4 at *
    exact qii
theorem qqA {P : Prop} (h : P := by
 rcases hf' with hf|rfl
 ·exact .inl hf
 ·exact .inr ⟨⟨h11,h12⟩,S34.row R3.out HC1.out (by simp),S34.colR R3.out HC1.out,hl,HLP.out⟩) : P := h
theorem qqN {P : Prop} (h : P := by
 exact((Stp.ext (cs:=[1,4]) H.out.Bsz E3.out HCOL.out).trans S34).mono (cs':=[1,2,3,4,5,7]) (by simp)) : P := h
theorem qhd{w:World}{B g c k:Nat}{l:List FlM}{x:FlM}(h:flE.Own w B (.slice (some (Pq g 0)) l.length c) l)(hx:l[k]?=some x):w.cell? (Pq g (k*3))=some (Jq x.m):=by
 obtain⟨b,off,h1,h2,h3⟩:=h.row.addr (k:=k*3) (by rw[flE.cells_len];exact Nat.mul_lt_mul_of_pos_right (List.getElem?_eq_some_iff.1 hx).1 (by decide))
 cases h1
 have:=h3 (k*3) (Jq x.m) (flE.cells_at hx 0 (by decide))
 simpa using this
theorem qkx{w:World}{B g c k:Nat}{l:List FlM}(h:flE.Own w B (.slice (some (Pq g 0)) l.length c) l)(hk:k<l.length)(i:Nat):w.frozen? (Pq g i)=false:=by
 obtain⟨g',c',hg',_,_,_,_,hfz⟩:=qgE h (by omega)
 cases hg'
 exact hfz i
theorem qqd{w:World}{B g c k:Nat}{l:List FlM}{x:FlM}(h:flE.Own w B (.slice (some (Pq g 0)) l.length c) l)(hx:l[k]?=some x):w.cell? (Pq g (k*3))=some (Jq x.m)∧w.cell? (Pq g (k*3+1))=some (Jq x.b)∧w.cell? (Pq g (k*3+2))=some (.slice x.A x.log.length x.c):=by
 have hl:=(List.getElem?_eq_some_iff.1 hx).1
 have H:∀j v,j<3→(flE.f x)[j]?=some v→w.cell? (Pq g (k*3+j))=some v:=fun j v hj hv=>by
  obtain⟨b,off,h1,h2,h3⟩:=h.row.addr (k:=k*3+j) (by rw[flE.cells_len];show k*3+j<l.length*3;omega)
  cases h1
  have:=h3 (k*3+j) v ((flE.cells_at hx j hj).trans hv)
  simpa using this
 exact⟨H 0 _ (by decide) rfl,H 1 _ (by decide) rfl,H 2 _ (by decide) rfl⟩
section
variable {B p:Nat} {cs:List Nat} {col col':Nat→Nat} {w w':World} {m:CM}
theorem CS.flput(h:CS w B col p m)(s:Stp B [1,4] col w col' w'){A:Option Addr}{c:Nat}{l:List FlM}(hb:BIs w' p ({m with b:={m.b with Af:=A,cf:=c,fls:=l}}:CM).cells 86)(ho:flE.Own w' B (.slice A l.length c) l)(hc:ColV col' 4 (.slice A l.length c))
  (hi:∀f∈l,f∈m.b.fls∨(flE.ok f∧Row w' f.A (qaz.cells f.log)∧ColR col' 0 f.A (qaz.cells f.log)∧f.log.length≤100000∧∀e∈f.log,e.p.length≤1000000)) (hn:l.length≤100000) :
  CS w' B col' p {m with b:={m.b with Af:=A,cf:=c,fls:=l}}:=by
 have hf:=h.fits
 refine⟨hb,(s.hue p h.lt).trans h.pc,h.bp,h.lies.refls s (by simp) (by simp) (by simp) (by simp) ho hc (fun f hfl=>?_),s.own h.pk h.kc (by simp),s.colV h.pk h.kc,h.kiK s (by simp),s.own h.dl h.dc (by simp),s.colV h.dl h.dc,⟨hf.vs,hf.vx,hf.log,hf.lp,hf.pend,hf.pp,hf.marks,hn,fun f hfl=>?_,hf.cl⟩,h.cp⟩
 ·rcases hi f hfl with h1|h1
  ·exact h.lies.fiK s (by simp) f h1
  ·exact⟨h1.1,h1.2.1,h1.2.2.1⟩
 ·rcases hi f hfl with h1|h1
  ·exact hf.fl f h1
  ·exact h1.2.2.2
theorem qq9{fm fb:Int}{A:Option Addr}{c:Nat}{l:List Ent}(hok:l.length≤c∧c≤maxLen)(hr:Row w A (qaz.cells l))(hcr:ColR col 0 A (qaz.cells l))(h:CS w B col p m) :
  flE.ok (⟨fm,fb,A,c,l⟩:FlM)∧∀r∈flE.inn (⟨fm,fb,A,c,l⟩:FlM),Row w r.1 r.2∧Apt (.slice m.b.Af m.b.fls.length m.b.cf) r:=by
 refine⟨hok,fun r hr'=>?_⟩
 simp only[flE,List.mem_cons,List.not_mem_nil,or_false] at hr'
 subst hr'
 exact⟨hr,fun p' q hne hp hq e=>by have h1:=hcr p' hne hp;have h2:=h.lies.fc q hq;rw[e,h1] at h2;cases h2⟩
end
set_option maxHeartbeats 1000000 in
theorem qf9(m:CM)(B:Nat)(col:Nat→Nat)(p:Nat)(fm fb:Int)(A:Option Addr)(c:Nat)(l:List Ent)(w:World)(h:CS w B col p m)(hr:Row w A (qaz.cells l))(hl:l.length≤100000)(hlp:∀e∈l,e.p.length≤1000000)(hn:m.b.fls.length≤50000) :
  Calls Tryz.prog 55 #[.pointer (some (Pq p 0)),.agg #[Jq fm,Jq fb,.slice A l.length c]] w (qhw B col p w {m.cs with s:={m.cs.s with fls:=putF m.cs.s.fls (fm,fb,l)}}):=by
 obtain⟨⟨self,base,stable,sent,Av,cv,vs,Al,cl,log,Ap,cp,pend,Am,cm,marks,Af,cf,fls⟩,Ak,ck,pk,Ad,cd,dl⟩:=m
 have hpl:=h.lt
 have H:=hJ h;have HLP:=hJ hlp
 simp only at hn
 obtain⟨_,_,hv,hk1,hk2,_⟩:=h.lies.fls.slice
 simp only[Value.slice.injEq,true_and] at hv
 obtain⟨hv1,hv2⟩:=hv
 rw[←hv2] at hk1 hk2
 clear hv1 hv2;have E0:Hid (Ext w (w.alloc (.cells #[Jq fm,Jq fb,.slice A l.length c] 80))):=hJ (Ext.new _ _)
 have B0:Hid (BIs (w.alloc (.cells #[Jq fm,Jq fb,.slice A l.length c] 80)) w.heap.size #[Jq fm,Jq fb,.slice A l.length c] 80):=hJ (BIs.new _ _ _)
 have HRL:Hid (qaz.Box (w.alloc (.cells #[Jq fm,Jq fb,.slice A l.length c] 80)) A l):=hJ (qhe (hr.ext E0.out))
 have HLW:Hid (∀k,(Value.slice Af fls.length cf).ownBlock=some k→k<w.heap.size):=hJ (fun k hk=>(H.out.lies.fls.lt k hk).2)
 clear h hr hlp;go_enter Tryz.func55,Tryz.ntmps55
 go_wp2_with fail
 refine(qdF A c l _ HRL.out (by omega)).mono ?_
 rintro en w1 ⟨A1,c1,rfl,h11,h12,ho1,hx1⟩
 have B1:=hJ (B0.out.ext hx1)
 have b2:w1.cell? (Pq w.heap.size 2)=some (.slice A l.length c):=B1.out.cell 2
 have f2:=B1.out.free 2
 have E1:=hJ (E0.out.trans hx1)
 have HO1:=hJ ho1.1
 go_upto_region 2 with fail
 have W12:Hid (Wrote w.heap.size w1 (w1.setCell (Pq w.heap.size 2) (.slice A1 l.length c1))):=hJ (Wrote.set _ _ _ _)
 have E2:Hid (Ext w (w1.setCell (Pq w.heap.size 2) (.slice A1 l.length c1))):=hJ (W12.out.ext E1.out (Nat.le_refl _))
 have B2:Hid (BIs (w1.setCell (Pq w.heap.size 2) (.slice A1 l.length c1)) w.heap.size #[Jq fm,Jq fb,.slice A1 l.length c1] 80):=hJ (B1.out.set 2 _)
 have HB1:Hid (∀q,(Value.slice A1 l.length c1).ownBlock=some q→w.heap.size+1≤q):=hJ (fun q hq=>by have:=(HO1.out.lt q hq).1;simpa using this)
 have R2:Hid (Row (w1.setCell (Pq w.heap.size 2) (.slice A1 l.length c1)) A1 (qaz.cells l)):=hJ (HO1.out.row.wrote (fun q _ hq e=>by subst hq;have:=HB1.out q.block rfl;omega) W12.out)
 have HC1:Hid (ColR (qai (qai col w.heap.size 8) (w.heap.size+1) 0) 0 A1 (qaz.cells l)):=hJ (fun q _ hq=>by subst hq;exact qbu (HB1.out q.block rfl))
 have HCOL:Hid (∀k,k<w.heap.size→(qai (qai col w.heap.size 8) (w.heap.size+1) 0) k=col k):=hJ (fun k hk=>by rw[qah (by omega),qah hk])
 have C2:Hid (CS (w1.setCell (Pq w.heap.size 2) (.slice A1 l.length c1)) B (qai (qai col w.heap.size 8) (w.heap.size+1) 0) p ⟨⟨self,base,stable,sent,Av,cv,vs,Al,cl,log,Ap,cp,pend,Am,cm,marks,Af,cf,fls⟩,Ak,ck,pk,Ad,cd,dl⟩):=hJ (H.out.keep (cs:=[]) (Stp.ext H.out.Bsz E2.out HCOL.out) (by simp))
 clear hx1 ho1 b2 f2;generalize w1.setCell (Pq w.heap.size 2) (.slice A1 l.length c1)=w2 at *
 have hwl:w.heap.size<w2.heap.size:=B2.out.lt
 have hpl2:p<w2.heap.size:=C2.out.lt
 have v0:w2.cell? (Pq w.heap.size 0)=some (Jq fm):=B2.out.cell 0
 have q8:w2.cell? (Pq p 8)=some (.slice Af fls.length cf):=C2.out.cell 8
 have HFB:Hid (flE.Box w2 Af fls):=hJ C2.out.lies.reads.fls
 go_wp2;go_loopw [4] (fun i wr=>∃k:Nat,k≤fls.length∧i=Jq (k:Int)∧Hid (∀i y,i<k→fls[i]?=some y→y.m<fm)∧Hid (Ext w2 wr)) (fun i _=>fls.length - (intOf i).toNat)
 case atStart=>exact⟨0,Nat.zero_le _,rfl,hJ (fun i y hi=>absurd hi (Nat.not_lt_zero _)),hJ (Ext.refl _)⟩
 case round=>
  obtain⟨k,hk,rfl,HK,HE2⟩:=hrel
  have CR:=hJ (C2.out.ext HE2.out);have BR:=hJ (B2.out.ext HE2.out);have RR:=hJ (R2.out.ext HE2.out);have ER:=hJ (E2.out.trans HE2.out)
  clear q8 v0;by_cases hlt:k<fls.length
  ·obtain⟨bb,off,x,hAf,hb,c0,c1',c2',HFR,HX⟩:=qgC (HFB.out.ext HE2.out) hlt
   obtain⟨g0,cg,hgv,_,_,hBg,hgs,hfz⟩:=qgE CR.out.lies.fls (by simp only;omega)
   simp only[Value.slice.injEq] at hgv
   obtain⟨hAg,_,rfl⟩:=hgv
   rw[hAg] at hAf
   simp only[Option.some.injEq,Addr.mk.injEq,and_true] at hAf
   obtain⟨rfl,rfl⟩:=hAf
   by_cases hx:x.m<fm
   ·have HK':Hid (∀i y,i<k+1→fls[i]?=some y→y.m<fm):=hJ (fun i y hi hy=>by
     rcases Nat.lt_or_ge i k with h1|h1
     ·exact HK.out i y h1 hy
     ·have:i=k:=by omega
      subst this
      rw[HX.out] at hy;cases hy;exact hx)
    have hx1:decide (x.m<fm)=true:=by simpa using hx
    have hAg':=hAg
    subst hAg
    clear hx;have hx2:Ext w2 wr.drew:=HE2.out.trans Ext.drew1
    have HE3:=hJ hx2
    clear hx2;go_upto_region 3 with fail
    refine qac 22 (fun w'=>Cq w' p 8 (.slice (some (Pq g0 0)) fls.length cf)∧Cq w' w.heap.size 0 (Jq fm)∧Cq w' g0 (k*3) (Jq x.m)) (by kernel_rfl) ⟨(CR.out.ext Ext.drew1).cell 8,(BR.out.ext Ext.drew1).cell 0,qhd (CR.out.ext Ext.drew1).lies.fls HX.out⟩ (fun hHeld=>?_)
    have hx2:Ext wr wr.drew:=Ext.drew1
    replace CR:=hJ (CR.out.ext hx2);replace BR:=hJ (BR.out.ext hx2);replace RR:=hJ (RR.out.ext hx2);replace ER:=hJ (ER.out.trans hx2);clear hx2
    generalize wr.drew=v3 at *
    refine E_t 0 9 ?_;refine E_t 1 10 ?_;refine E_t 2 11 ?_;refine E_t 3 12 ?_;refine E_t 4 13 ?_;refine E_t 5 14 ?_;refine E_t 6 15 ?_;refine E_t 7 16 ?_;refine E_t 8 17 ?_;refine E_t 9 18 ?_;refine E_t 10 19 ?_;refine E_t 11 20 ?_;refine E_t 12 21 ?_;refine E_t 13 22 ?_;refine E_t 14 23 ?_;refine E_t 15 24 ?_;refine E_t 16 25 ?_;refine E_t 17 26 ?_;refine E_t 18 27 ?_;refine E_t 19 28 ?_;refine E_t 20 29 ?_;refine E_t 21 30 ?_;refine qaE (by kernel_rfl) (by rfl) ?_
    clear hHeld;go_wp2;go_roundw
    case rel=>exact⟨k+1,by omega,by go_num,HK',HE3⟩
    case measure=>simp[intOf];omega
   ·have hx1:decide (x.m<fm)=false:=by simpa using hx
    have HS:Hid (qgX (fls.map FlM.v) fm=k):=hJ (qlA HK.out hk (fun y hy=>by rw[HX.out] at hy;cases hy;exact hx))
    subst hAg
    by_cases he:x.m=fm
    ·have hx2:(x.m == fm)=true:=by simpa using he
     have HRES:Hid (putF (fls.map FlM.v) (fm,fb,l)=(fls.set k ⟨fm,fb,A1,c1,l⟩).map FlM.v):=hJ (qpb (f:=⟨fm,fb,A1,c1,l⟩) HS.out HX.out he)
     clear hx he;go_upto_region 3 with fail
     refine qac 22 (fun w'=>Cq w' p 8 (.slice (some (Pq g0 0)) fls.length cf)∧Cq w' w.heap.size 0 (Jq fm)∧Cq w' g0 (k*3) (Jq x.m)) (by kernel_rfl) ⟨(CR.out.ext Ext.drew1).cell 8,(BR.out.ext Ext.drew1).cell 0,qhd (CR.out.ext Ext.drew1).lies.fls HX.out⟩ (fun hHeld=>?_)
     have hx2:Ext wr wr.drew:=Ext.drew1
     replace CR:=hJ (CR.out.ext hx2);replace BR:=hJ (BR.out.ext hx2);replace RR:=hJ (RR.out.ext hx2);replace ER:=hJ (ER.out.trans hx2);clear hx2
     generalize wr.drew=v3 at *
     refine E_t 0 9 ?_;refine E_t 1 10 ?_;refine E_t 2 11 ?_;refine E_t 3 12 ?_;refine E_t 4 13 ?_;refine E_t 5 14 ?_;refine E_t 6 15 ?_;refine E_t 7 16 ?_;refine E_t 8 17 ?_;refine E_t 9 18 ?_;refine E_t 10 19 ?_;refine E_t 11 20 ?_;refine E_t 12 21 ?_;refine E_t 13 22 ?_;refine E_t 14 23 ?_;refine E_t 15 24 ?_;refine E_t 16 25 ?_;refine E_t 17 26 ?_;refine E_t 18 27 ?_;refine E_t 19 28 ?_;refine E_t 20 29 ?_;refine E_t 21 30 ?_;refine qaE (by kernel_rfl) (by rfl) ?_
     clear hHeld;go_upto_region 5 with fail
     refine qac 22 (fun w'=>Cq w' p 8 (.slice (some (Pq g0 0)) fls.length cf)∧Cq w' w.heap.size 0 (Jq fm)∧Cq w' g0 (k*3) (Jq x.m)) (by kernel_rfl) ⟨(CR.out.ext Ext.drew1).cell 8,(BR.out.ext Ext.drew1).cell 0,qhd (CR.out.ext Ext.drew1).lies.fls HX.out⟩ (fun hHeld=>?_)
     have hx2:Ext v3 v3.drew:=Ext.drew1
     replace CR:=hJ (CR.out.ext hx2);replace BR:=hJ (BR.out.ext hx2);replace RR:=hJ (RR.out.ext hx2);replace ER:=hJ (ER.out.trans hx2);clear hx2
     generalize v3.drew=v5 at *
     refine E_t 0 33 ?_;refine E_t 1 34 ?_;refine E_t 2 35 ?_;refine E_t 3 36 ?_;refine E_t 4 37 ?_;refine E_t 5 38 ?_;refine E_t 6 39 ?_;refine E_t 7 40 ?_;refine E_t 8 41 ?_;refine E_t 9 42 ?_;refine E_t 10 43 ?_;refine E_t 11 44 ?_;refine E_t 12 45 ?_;refine E_t 13 46 ?_;refine E_t 14 47 ?_;refine E_t 15 48 ?_;refine E_t 16 49 ?_;refine E_t 17 50 ?_;refine E_t 18 51 ?_;refine E_t 19 52 ?_;refine E_t 20 53 ?_;refine E_t 21 54 ?_;refine qaE (by kernel_rfl) (by rfl) ?_
     clear hHeld;go_upto_region 6 with fail
     obtain⟨g,rfl⟩:∃x,x=g0:=⟨_,rfl⟩
     refine qac 8 (fun w'=>Cq w' p 8 (.slice (some (Pq g 0)) fls.length cf)∧Cq w' w.heap.size 0 (Jq fm)∧Cq w' w.heap.size 1 (Jq fb)∧Cq w' w.heap.size 2 (.slice A1 l.length c1)) (by kernel_rfl) ⟨(CR.out.ext Ext.drew1).cell 8,(BR.out.ext Ext.drew1).cell 0,(BR.out.ext Ext.drew1).cell 1,(BR.out.ext Ext.drew1).cell 2⟩ (fun hHeld=>?_)
     refine E_t 0 55 ?_;refine E_t 1 56 ?_;refine E_t 2 57 ?_;refine E_t 3 58 ?_;refine E_t 4 59 ?_;refine E_t 5 60 ?_;refine E_t 6 61 ?_;refine E_t 7 62 ?_;refine qbc (by rfl) (by kernel_rfl) ?_
     have fz0:=qkx CR.out.lies.fls hlt (k*3);have fz1:=qkx CR.out.lies.fls hlt (k*3+1);have fz2:=qkx CR.out.lies.fls hlt (k*3+2)
     obtain⟨d0,d1,d2⟩:=qqd CR.out.lies.fls HX.out
     go_wp2;(try simp only[Exit.inBlock,Exit.then]);refine bodyPost_ret (results_none rfl _ _ _) rfl ?_
     have O3:flE.Own (((v5.drew.setCell (Pq g (k*3)) (Jq fm)).setCell (Pq g (k*3+1)) (Jq fb)).setCell (Pq g (k*3+2)) (.slice A1 l.length c1)) B (.slice (some (Pq g 0)) (fls.set k ⟨fm,fb,A1,c1,l⟩).length cf) (fls.set k ⟨fm,fb,A1,c1,l⟩):=qsp ⟨fm,fb,A1,c1,l⟩ (CR.out.ext Ext.drew1).lies.fls HX.out
     have W23:Wrote g v5.drew (((v5.drew.setCell (Pq g (k*3)) (Jq fm)).setCell (Pq g (k*3+1)) (Jq fb)).setCell (Pq g (k*3+2)) (.slice A1 l.length c1)):=((Wrote.set g _ _ _).trans (Wrote.set g _ _ _)).trans (Wrote.set g _ _ _)
     have hcg:(qai (qai col w.heap.size 8) (w.heap.size+1) 0) g=4:=CR.out.lies.fc g rfl
     have hgp:g≠p:=fun e=>by have:=CR.out.pc;rw[←e,hcg] at this;cases this
     have S3:Stp B [4] (qai (qai col w.heap.size 8) (w.heap.size+1) 0) v5 (qai (qai col w.heap.size 8) (w.heap.size+1) 0) (((v5.drew.setCell (Pq g (k*3)) (Jq fm)).setCell (Pq g (k*3+1)) (Jq fb)).setCell (Pq g (k*3+2)) (.slice A1 l.length c1)):=(Stp.ext' CR.out.Bsz Ext.drew1).trans (Stp.wrote W23 hBg CR.out.Bsz (by rw[hcg];simp))
     refine⟨⟨⟨self,base,stable,sent,Av,cv,vs,Al,cl,log,Ap,cp,pend,Am,cm,marks,(some (Pq g 0)),cf,fls.set k ⟨fm,fb,A1,c1,l⟩⟩,Ak,ck,pk,Ad,cd,dl⟩,(qai (qai col w.heap.size 8) (w.heap.size+1) 0),rfl,?_,?_,?_⟩
     ·refine CS.flput CR.out (S3.mono (by simp)) ?_ O3 (fun q hq=>by cases hq;exact hcg) (fun f hf=>?_) (by rw[List.length_set];omega)
      ·have:=W23.bis (CR.out.ext Ext.drew1).box (Ne.symm hgp)
       simp only[CM.cells,List.length_set] at this⊢
       exact this
      ·rcases List.mem_or_eq_of_mem_set hf with hf|rfl
       ·exact .inl hf
       ·exact .inr ⟨⟨h11,h12⟩,S3.row RR.out HC1.out (by simp),S3.colR RR.out HC1.out,hl,HLP.out⟩
     ·simp only[CM.cs,BM.st];rw[HRES.out]
     ·exact((Stp.ext (cs:=[4]) H.out.Bsz ER.out HCOL.out).trans S3).mono (cs':=[1,2,3,4,5,7]) (by simp)
    ·have hx2:(x.m == fm)=false:=by simpa using he
     have HRES:Hid (putF (fls.map FlM.v) (fm,fb,l)=(fls.take k++⟨fm,fb,A1,c1,l⟩::fls.drop k).map FlM.v):=hJ (qlc (f:=⟨fm,fb,A1,c1,l⟩) HS.out (fun y hy=>by rw[HX.out] at hy;cases hy;exact he))
     clear hx he;go_upto_region 3 with fail
     refine qac 22 (fun w'=>Cq w' p 8 (.slice (some (Pq g0 0)) fls.length cf)∧Cq w' w.heap.size 0 (Jq fm)∧Cq w' g0 (k*3) (Jq x.m)) (by kernel_rfl) ⟨(CR.out.ext Ext.drew1).cell 8,(BR.out.ext Ext.drew1).cell 0,qhd (CR.out.ext Ext.drew1).lies.fls HX.out⟩ (fun hHeld=>?_)
     have hx2:Ext wr wr.drew:=Ext.drew1
     replace CR:=hJ (CR.out.ext hx2);replace BR:=hJ (BR.out.ext hx2);replace RR:=hJ (RR.out.ext hx2);replace ER:=hJ (ER.out.trans hx2);clear hx2
     generalize wr.drew=v3 at *
     refine E_t 0 9 ?_;refine E_t 1 10 ?_;refine E_t 2 11 ?_;refine E_t 3 12 ?_;refine E_t 4 13 ?_;refine E_t 5 14 ?_;refine E_t 6 15 ?_;refine E_t 7 16 ?_;refine E_t 8 17 ?_;refine E_t 9 18 ?_;refine E_t 10 19 ?_;refine E_t 11 20 ?_;refine E_t 12 21 ?_;refine E_t 13 22 ?_;refine E_t 14 23 ?_;refine E_t 15 24 ?_;refine E_t 16 25 ?_;refine E_t 17 26 ?_;refine E_t 18 27 ?_;refine E_t 19 28 ?_;refine E_t 20 29 ?_;refine E_t 21 30 ?_;refine qaE (by kernel_rfl) (by rfl) ?_
     clear hHeld;go_upto_region 5 with fail
     refine qac 22 (fun w'=>Cq w' p 8 (.slice (some (Pq g0 0)) fls.length cf)∧Cq w' w.heap.size 0 (Jq fm)∧Cq w' g0 (k*3) (Jq x.m)) (by kernel_rfl) ⟨(CR.out.ext Ext.drew1).cell 8,(BR.out.ext Ext.drew1).cell 0,qhd (CR.out.ext Ext.drew1).lies.fls HX.out⟩ (fun hHeld=>?_)
     have hx2:Ext v3 v3.drew:=Ext.drew1
     replace CR:=hJ (CR.out.ext hx2);replace BR:=hJ (BR.out.ext hx2);replace RR:=hJ (RR.out.ext hx2);replace ER:=hJ (ER.out.trans hx2);clear hx2
     generalize v3.drew=v5 at *
     refine E_t 0 33 ?_;refine E_t 1 34 ?_;refine E_t 2 35 ?_;refine E_t 3 36 ?_;refine E_t 4 37 ?_;refine E_t 5 38 ?_;refine E_t 6 39 ?_;refine E_t 7 40 ?_;refine E_t 8 41 ?_;refine E_t 9 42 ?_;refine E_t 10 43 ?_;refine E_t 11 44 ?_;refine E_t 12 45 ?_;refine E_t 13 46 ?_;refine E_t 14 47 ?_;refine E_t 15 48 ?_;refine E_t 16 49 ?_;refine E_t 17 50 ?_;refine E_t 18 51 ?_;refine E_t 19 52 ?_;refine E_t 20 53 ?_;refine E_t 21 54 ?_;refine qaE (by kernel_rfl) (by rfl) ?_
     clear hHeld;go_upto_region 7 with fail
     refine qac 10 (fun w'=>Cq w' p 8 (.slice (some (Pq g0 0)) fls.length cf)∧Cq w' w.heap.size 0 (Jq fm)∧Cq w' w.heap.size 1 (Jq fb)∧Cq w' w.heap.size 2 (.slice A1 l.length c1)) (by kernel_rfl) ⟨(CR.out.ext Ext.drew1).cell 8,(BR.out.ext Ext.drew1).cell 0,(BR.out.ext Ext.drew1).cell 1,(BR.out.ext Ext.drew1).cell 2⟩ (fun hHeld=>?_)
     refine E_t 0 63 ?_;refine E_t 1 64 ?_;refine E_t 2 65 ?_;refine E_t 3 66 ?_;refine E_t 4 67 ?_;refine E_t 5 68 ?_;refine E_t 6 69 ?_;refine E_t 7 70 ?_;refine E_r 8 (some 71) fun K hK=>?_
     go_simp;have EA:Hid (Ext v5 (v5.alloc (.cells #[Jq fm,Jq fb,.slice A1 l.length c1] 80)).drew):=hJ ((Ext.new _ _).trans Ext.drew1)
     have G3:Hid (BIs (v5.alloc (.cells #[Jq fm,Jq fb,.slice A1 l.length c1] 80)).drew v5.heap.size (flE.f ⟨fm,fb,A1,c1,l⟩).toArray 80):=hJ ((qnb fm fb A1 c1 l v5).ext Ext.drew1)
     have C3:=hJ (CR.out.ext EA.out);have B3:=hJ (BR.out.ext EA.out);have R3:=hJ (RR.out.ext EA.out);have E3:=hJ (ER.out.trans EA.out)
     have HGO:Hid (∀q,(Value.slice (some (Pq g0 0)) fls.length cf).ownBlock=some q→q≠v5.heap.size):=hJ (fun q hq=>by have h9:q<v5.heap.size:=(CR.out.lies.fls.lt q hq).2;omega)
     generalize (v5.alloc (.cells #[Jq fm,Jq fb,.slice A1 l.length c1] 80)).drew=u3 at *
     generalize v5.heap.size=r_e at *
     clear hHeld;refine hK.out _ _ ⟨C3.out.cell 8,B3.out.cell 0,B3.out.cell 1,B3.out.cell 2⟩ (fun hHeld=>?_)
     clear hK K;try simp only[Act.put,aP1,aP2,aP3]
     refine E_r 9 (some 72) fun K hK=>?_
     go_simp;go_at_call 127;refine(qp2 B (some (Pq g0 0)) cf fls (⟨fm,fb,A1,c1,l⟩:FlM) k u3 (by exact C3.out.lies.fls) (by exact C3.out.Bsz) r_e 1 (by exact G3.out) (by exact HGO.out) hlt (by omega)).mono ?_
     rintro en w3 ⟨v3,rfl,ho3,hg3,hs3⟩
     obtain⟨NL,hNL⟩:∃x,x=fls.take k++⟨fm,fb,A1,c1,l⟩::fls.drop k:=⟨_,rfl⟩
     have HNL:=hJ hNL
     rw[←hNL] at ho3
     clear hNL;obtain⟨A3,c3,rfl,h31,h32,_⟩:=ho3.slice
     have HO3:=hJ ho3
     have S3:Hid (Stp B [4] (qai (qai col w.heap.size 8) (w.heap.size+1) 0) u3 (qai (qai (qai col w.heap.size 8) (w.heap.size+1) 0) u3.heap.size 4) w3):=hJ ((Stp.grew hg3 C3.out.Bsz (fun q hq=>(C3.out.lies.fls.lt q hq).1) C3.out.lies.fc (by simp)).recol (fun k hk=>qah hk))
     have HCV:Hid (ColV (qai (qai (qai col w.heap.size 8) (w.heap.size+1) 0) u3.heap.size 4) 4 (.slice A3 NL.length c3)):=hJ (qcj hs3 C3.out.lies.fc (Nat.le_refl _) (fun q hq=>(C3.out.lies.fls.lt q hq).2))
     have BX3:Hid (BIs w3 p (⟨⟨self,base,stable,sent,Av,cv,vs,Al,cl,log,Ap,cp,pend,Am,cm,marks,(some (Pq g0 0)),cf,fls⟩,Ak,ck,pk,Ad,cd,dl⟩:CM).cells 86):=hJ (S3.out.bis C3.out.box (by rw[C3.out.pc];simp))
     have B4:Hid (BIs w3 w.heap.size #[Jq fm,Jq fb,.slice A1 l.length c1] 80):=hJ (B3.out.same (hg3.block _ B3.out.lt (fun e=>by have h2:=HLW.out _ e.symm;omega)))
     clear ho3 hg3 hs3;clear hHeld;refine hK.out _ _ ⟨BX3.out.cell 8,B4.out.cell 0,B4.out.cell 1,B4.out.cell 2⟩ (fun hHeld=>?_)
     clear hK K;try simp only[Act.put,aP1,aP2,aP3]
     refine qbc (by rfl) (by kernel_rfl) ?_
     have q8':w3.cell? (Pq p 8)=some (.slice (some (Pq g0 0)) fls.length cf):=BX3.out.cell 8
     have f8:=BX3.out.free 8
     go_wp2;go_end0;have hpc3:(qai (qai (qai col w.heap.size 8) (w.heap.size+1) 0) u3.heap.size 4) p=1:=(S3.out.hue p C3.out.lt).trans C3.out.pc
     have S4:Stp B [1,4] (qai (qai (qai col w.heap.size 8) (w.heap.size+1) 0) u3.heap.size 4) w3 (qai (qai (qai col w.heap.size 8) (w.heap.size+1) 0) u3.heap.size 4) (w3.setCell (Pq p 8) (.slice A3 NL.length c3)):=Stp.wrote (Wrote.set _ _ _ _) H.out.bp (Nat.le_trans C3.out.Bsz S3.out.size) (by rw[hpc3];simp)
     have S34:=(S3.out.mono (cs':=[1,4]) (by simp)).trans S4
     refine⟨⟨⟨self,base,stable,sent,Av,cv,vs,Al,cl,log,Ap,cp,pend,Am,cm,marks,A3,c3,NL⟩,Ak,ck,pk,Ad,cd,dl⟩,qai (qai (qai col w.heap.size 8) (w.heap.size+1) 0) u3.heap.size 4,rfl,?_,?_,?_⟩
     ·refine CS.flput C3.out S34 (BX3.out.set 8 _) (HO3.out.keep fun q hq hlt=>(Wrote.set p 8 w3 _).blk hlt (fun e=>by subst e;have:=HCV.out q hq;rw[hpc3] at this;cases this)) HCV.out (fun f hf=>?_) (by rw[HNL.out];simp;omega)
      rw[HNL.out] at hf
      have hf':f∈fls∨f=⟨fm,fb,A1,c1,l⟩:=by rcases qfT hf with hf|hf;exact .inr hf;exact .inl hf
      exact qqA
     ·simp only[CM.cs,BM.st];rw[HRES.out,HNL.out]
     ·exact qqN
  ·have hkl:k=fls.length:=by omega
   have HS:Hid (qgX (fls.map FlM.v) fm=k):=hJ (qlA HK.out hk (fun y hy=>by rw[List.getElem?_eq_none (by omega)] at hy;cases hy))
   have HRES:Hid (putF (fls.map FlM.v) (fm,fb,l)=(fls.take k++⟨fm,fb,A1,c1,l⟩::fls.drop k).map FlM.v):=hJ (qlc (f:=⟨fm,fb,A1,c1,l⟩) HS.out (fun y hy=>by rw[List.getElem?_eq_none (by omega)] at hy;cases hy))
   subst hkl
   go_upto_region 3 with fail
   refine qac 22 (fun w'=>Cq w' p 8 (.slice Af fls.length cf)∧Cq w' w.heap.size 0 (Jq fm)) (by kernel_rfl) ⟨(CR.out.ext Ext.drew1).cell 8,(BR.out.ext Ext.drew1).cell 0⟩ (fun hHeld=>?_)
   have hx2:Ext wr wr.drew:=Ext.drew1
   replace CR:=hJ (CR.out.ext hx2);replace BR:=hJ (BR.out.ext hx2);replace RR:=hJ (RR.out.ext hx2);replace ER:=hJ (ER.out.trans hx2);clear hx2
   generalize wr.drew=v3 at *
   refine E_t 0 9 ?_;refine E_t 1 10 ?_;refine E_t 2 11 ?_;refine E_t 3 12 ?_;refine E_t 4 13 ?_;refine E_t 5 14 ?_;refine E_t 6 15 ?_;refine E_t 7 16 ?_;refine E_t 8 17 ?_;refine E_s 9 18 ?_;refine E_s 10 19 ?_;refine E_s 11 20 ?_;refine E_s 12 21 ?_;refine E_s 13 22 ?_;refine E_s 14 23 ?_;refine E_s 15 24 ?_;refine E_s 16 25 ?_;refine E_s 17 26 ?_;refine E_s 18 27 ?_;refine E_s 19 28 ?_;refine E_s 20 29 ?_;refine E_t 21 30 ?_;refine qaE (by kernel_rfl) (by rfl) ?_
   clear hHeld;go_upto_region 5 with fail
   refine qac 22 (fun w'=>Cq w' p 8 (.slice Af fls.length cf)∧Cq w' w.heap.size 0 (Jq fm)) (by kernel_rfl) ⟨(CR.out.ext Ext.drew1).cell 8,(BR.out.ext Ext.drew1).cell 0⟩ (fun hHeld=>?_)
   have hx2:Ext v3 v3.drew:=Ext.drew1
   replace CR:=hJ (CR.out.ext hx2);replace BR:=hJ (BR.out.ext hx2);replace RR:=hJ (RR.out.ext hx2);replace ER:=hJ (ER.out.trans hx2);clear hx2
   generalize v3.drew=v5 at *
   refine E_t 0 33 ?_;refine E_t 1 34 ?_;refine E_t 2 35 ?_;refine E_t 3 36 ?_;refine E_t 4 37 ?_;refine E_t 5 38 ?_;refine E_t 6 39 ?_;refine E_t 7 40 ?_;refine E_t 8 41 ?_;refine E_s 9 42 ?_;refine E_s 10 43 ?_;refine E_s 11 44 ?_;refine E_s 12 45 ?_;refine E_s 13 46 ?_;refine E_s 14 47 ?_;refine E_s 15 48 ?_;refine E_s 16 49 ?_;refine E_s 17 50 ?_;refine E_s 18 51 ?_;refine E_s 19 52 ?_;refine E_s 20 53 ?_;refine E_t 21 54 ?_;refine qaE (by kernel_rfl) (by rfl) ?_
   clear hHeld;go_upto_region 7 with fail
   refine qac 10 (fun w'=>Cq w' p 8 (.slice Af fls.length cf)∧Cq w' w.heap.size 0 (Jq fm)∧Cq w' w.heap.size 1 (Jq fb)∧Cq w' w.heap.size 2 (.slice A1 l.length c1)) (by kernel_rfl) ⟨(CR.out.ext Ext.drew1).cell 8,(BR.out.ext Ext.drew1).cell 0,(BR.out.ext Ext.drew1).cell 1,(BR.out.ext Ext.drew1).cell 2⟩ (fun hHeld=>?_)
   refine E_t 0 63 ?_;refine E_t 1 64 ?_;refine E_t 2 65 ?_;refine E_t 3 66 ?_;refine E_t 4 67 ?_;refine E_t 5 68 ?_;refine E_t 6 69 ?_;refine E_t 7 70 ?_;refine E_r 8 (some 71) fun K hK=>?_
   go_simp;have EA:Hid (Ext v5 (v5.alloc (.cells #[Jq fm,Jq fb,.slice A1 l.length c1] 80)).drew):=hJ ((Ext.new _ _).trans Ext.drew1)
   have G3:Hid (BIs (v5.alloc (.cells #[Jq fm,Jq fb,.slice A1 l.length c1] 80)).drew v5.heap.size (flE.f ⟨fm,fb,A1,c1,l⟩).toArray 80):=hJ ((qnb fm fb A1 c1 l v5).ext Ext.drew1)
   have C3:=hJ (CR.out.ext EA.out);have B3:=hJ (BR.out.ext EA.out);have R3:=hJ (RR.out.ext EA.out);have E3:=hJ (ER.out.trans EA.out)
   have HGO:Hid (∀q,(Value.slice Af fls.length cf).ownBlock=some q→q≠v5.heap.size):=hJ (fun q hq=>by have h9:q<v5.heap.size:=(CR.out.lies.fls.lt q hq).2;omega)
   generalize (v5.alloc (.cells #[Jq fm,Jq fb,.slice A1 l.length c1] 80)).drew=u3 at *
   generalize v5.heap.size=r_e at *
   clear hHeld;refine hK.out _ _ ⟨C3.out.cell 8,B3.out.cell 0,B3.out.cell 1,B3.out.cell 2⟩ (fun hHeld=>?_)
   clear hK K;try simp only[Act.put,aP1,aP2,aP3]
   refine E_r 9 (some 72) fun K hK=>?_
   go_simp;go_at_call 127;have HXG:Hid (flE.ok (⟨fm,fb,A1,c1,l⟩:FlM)∧∀r∈flE.inn (⟨fm,fb,A1,c1,l⟩:FlM),Row u3 r.1 r.2∧Apt (.slice Af fls.length cf) r):=hJ (qq9 ⟨h11,h12⟩ R3.out HC1.out C3.out)
   refine(qqj B Af cf fls (⟨fm,fb,A1,c1,l⟩:FlM) u3 (by exact C3.out.fl_ob) (by exact C3.out.Bsz) r_e 1 (by exact qsn G3.out) (by exact HXG.out) (by omega) ⟨hk1,hk2⟩).mono ?_
   rintro en w3 ⟨v3,rfl,ho3,hg3,hs3⟩
   obtain⟨NL,hNL⟩:∃x,x=fls++[⟨fm,fb,A1,c1,l⟩]:=⟨_,rfl⟩
   have HNL:=hJ hNL
   rw[←hNL] at ho3
   clear hNL;obtain⟨A3,c3,rfl,h31,h32,_⟩:=ho3.slice
   have HO3:=hJ ho3
   have S3:Hid (Stp B [4] (qai (qai col w.heap.size 8) (w.heap.size+1) 0) u3 (qai (qai (qai col w.heap.size 8) (w.heap.size+1) 0) u3.heap.size 4) w3):=hJ ((Stp.grew hg3 C3.out.Bsz (fun q hq=>(C3.out.lies.fls.lt q hq).1) C3.out.lies.fc (by simp)).recol (fun k hk=>qah hk))
   have HCV:Hid (ColV (qai (qai (qai col w.heap.size 8) (w.heap.size+1) 0) u3.heap.size 4) 4 (.slice A3 NL.length c3)):=hJ (qcj hs3 C3.out.lies.fc (Nat.le_refl _) (fun q hq=>(C3.out.lies.fls.lt q hq).2))
   have BX3:Hid (BIs w3 p (⟨⟨self,base,stable,sent,Av,cv,vs,Al,cl,log,Ap,cp,pend,Am,cm,marks,Af,cf,fls⟩,Ak,ck,pk,Ad,cd,dl⟩:CM).cells 86):=hJ (S3.out.bis C3.out.box (by rw[C3.out.pc];simp))
   have B4:Hid (BIs w3 w.heap.size #[Jq fm,Jq fb,.slice A1 l.length c1] 80):=hJ (B3.out.same (hg3.block _ B3.out.lt (fun e=>by have h2:=HLW.out _ e.symm;omega)))
   clear ho3 hg3 hs3;clear hHeld;refine hK.out _ _ ⟨BX3.out.cell 8,B4.out.cell 0,B4.out.cell 1,B4.out.cell 2⟩ (fun hHeld=>?_)
   clear hK K;try simp only[Act.put,aP1,aP2,aP3]
   refine qbc (by rfl) (by kernel_rfl) ?_
   have q8':w3.cell? (Pq p 8)=some (.slice Af fls.length cf):=BX3.out.cell 8
   have f8:=BX3.out.free 8
   go_wp2;go_end0;have hpc3:(qai (qai (qai col w.heap.size 8) (w.heap.size+1) 0) u3.heap.size 4) p=1:=(S3.out.hue p C3.out.lt).trans C3.out.pc
   have S4:Stp B [1,4] (qai (qai (qai col w.heap.size 8) (w.heap.size+1) 0) u3.heap.size 4) w3 (qai (qai (qai col w.heap.size 8) (w.heap.size+1) 0) u3.heap.size 4) (w3.setCell (Pq p 8) (.slice A3 NL.length c3)):=Stp.wrote (Wrote.set _ _ _ _) H.out.bp (Nat.le_trans C3.out.Bsz S3.out.size) (by rw[hpc3];simp)
   have S34:=(S3.out.mono (cs':=[1,4]) (by simp)).trans S4
   refine⟨⟨⟨self,base,stable,sent,Av,cv,vs,Al,cl,log,Ap,cp,pend,Am,cm,marks,A3,c3,NL⟩,Ak,ck,pk,Ad,cd,dl⟩,qai (qai (qai col w.heap.size 8) (w.heap.size+1) 0) u3.heap.size 4,rfl,?_,?_,?_⟩
   ·refine CS.flput C3.out S34 (BX3.out.set 8 _) (HO3.out.keep fun q hq hlt=>(Wrote.set p 8 w3 _).blk hlt (fun e=>by subst e;have:=HCV.out q hq;rw[hpc3] at this;cases this)) HCV.out (fun f hf=>?_) (by rw[HNL.out];simp;omega)
    rw[HNL.out] at hf
    have hf':f∈fls∨f=⟨fm,fb,A1,c1,l⟩:=by rcases List.mem_append.1 hf with hf|hf;exact .inl hf;exact .inr (by simpa using hf)
    exact qqA
   ·simp only[CM.cs,BM.st];rw[HRES.out,HNL.out];simp only[List.take_length,List.drop_length]
   ·exact qqN
end Go.Proofs.YtponbabbabnaeaaGreat
