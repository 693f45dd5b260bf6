/- Part 13 of the proof: contracts of functions that the statement reaches. Conditions: as each theorem says. -/
import Derived.Test.YtponbabbabnaeaaGreatQe01
import Derived.Test.YtponbabbabnaeaaGreatQe12
import Derived.Test.YtponbabbabnaeaaGreatQe10
set_option maxRecDepth 100000
namespace Go.Proofs.YtponbabbabnaeaaGreat
open Go.RowKit
theorem qqP {P : Prop} (h : P := by
 have S5:Hid (Stp B [1,2,3,4,5,7] col2 w2 col5 w5):=hJ (HS.out.trans (((Stp.ext' HC.out.Bsz (X4.out.trans X3'.out))).trans hs5))
 go_wp2;go_roundw
 case rel=>exact⟨k+1,m5,col5,by omega,by go_num,hJ hc5,hJ (by rw[hm5,HFS.out,←HM.out,HST.out]),S5⟩
 case measure=>simp[intOf];omega) : P := h
theorem qfa(A:Option Addr)(c:Nat)(l:List VwM)(w:World)(h:qas.Box w A l)(hp:0<l.length)(hn:l.length≤1000000000) :
  ∃v∈l,qaf (vws l)=(v.n,v.xs)∧Calls Tryz.prog 49 #[.slice A l.length c] w fun e w'=>e=.returned (.agg #[Jq v.n,.slice v.A v.xs.length v.c])∧Ext w w':=by
 obtain⟨j,hj⟩:∃j,l.length=j+1:=⟨l.length - 1,by omega⟩
 obtain⟨b,off,n,X,cx,xs,rfl,hb,c0,c1,HR,h1,h2,HX⟩:=qdk h (show j<l.length by omega)
 have HL:=qkQ (by rw[qaI];exact hj) (qfZ HX.out)
 refine⟨⟨n,X,cx,xs⟩,List.mem_of_getElem? HX.out,HL,?_⟩
 have hw1:IntKind.i64.wrap ((l.length:Int) - 1)=(j:Int):=by rw[IntWalk.i64_in _ (by omega)];omega
 have k1:(0:Int)≤(j:Int):=by omega
 have k2:(j:Int)<(l.length:Int):=by omega
 have k3:j<l.length:=by omega
 clear hj h HL;go_enter Tryz.func49,Tryz.ntmps49
 go_wp2;exact bodyPost_ret (v:=.agg #[Jq n,.slice X xs.length cx]) (by simp[results,Tryz.results49,go_sem]) rfl ⟨rfl,Ext.new _ _⟩
theorem qfJ(A Al:Option Addr)(c cl k:Nat)(body:List UInt8)(log:List Ent)(w:World)(hb:Row w A (qad body))(hbl:body.length≤1000)(hbc:body.length≤c∧c≤maxLen)(hr:Row w Al (qaz.cells log))(hn:log.length≤2000)(hp:∀e∈log,e.p.length≤6000)(hk:k=log.length) :
  Calls Tryz.prog 52 #[.slice A body.length c,.slice Al k cl] w (GivesB w (body++qbd log)):=by subst hk;exact qcf A Al c cl body log w hb hbl hbc hr hn hp
theorem qfM{body:List UInt8}{l:List Ent}(hb:body.length≤1000)(hn:l.length≤2000)(hp:∀e∈l,e.p.length≤6000):(body++qbd l).length≤100000000:=by
 have h1:=qfg hp
 have h2:=qaD [(l.length:Int)]
 unfold qbd
 simp only[List.length_append,List.length_cons,List.length_nil] at *
 omega
theorem qag{w:World}{o:Obj}{p i:Nat}(h:p<w.heap.size):(w.alloc o).drew.cell? (Pq p i)=w.cell? (Pq p i):=World.cell?_alloc_lt _ _ _ h
theorem qj5{c:Cs}{x:Int}(h:x=c.s.self):qaQ c x=c:=by unfold qaQ;rw[if_pos h]
theorem qjR{c:Cs}{x:Int}(h:¬x=c.s.self)(hm:qgh c.s.marks x=none):qaQ c x=qb3 c x 15 (qav [c.s.base]++qbd c.s.log):=by unfold qaQ;rw[if_neg h,hm]
theorem qj0{c:Cs}{x st:Int}(h:¬x=c.s.self)(hm:qgh c.s.marks x=some st):qaQ c x=qb3 c x 12 (qav [c.s.base,st,c.s.stable]++qbd (qdC c.s.log st (min (st+16) c.s.log.length))):=by unfold qaQ;rw[if_neg h,hm]
set_option maxHeartbeats 1000000 in
theorem qpW(m:CM)(B:Nat)(col:Nat→Nat)(p:Nat)(w:World)(h:CS w B col p m)(ok:OkS m.b.st)(hpk:m.pk.length=0)(hdl:m.dl.length=0) :
  Calls Tryz.prog 45 #[.pointer (some (Pq p 0))] w (qhw B col p w (qhm m.cs)):=by
 have H:=hJ h;have OK:=hJ ok
 have hpl:=h.lt
 clear h ok;go_enter Tryz.func45,Tryz.ntmps45
 go_wp2_with fail
 refine(qk7 m.b #[.slice m.Ak m.pk.length m.ck,.slice m.Ad m.dl.length m.cd] 86 p B col w (by exact H.out.box) H.out.pc H.out.bp H.out.lies H.out.fits OK.out.own OK.out.sent ?_ OK.out.log).mono ?_
 ·have h1:=OK.out.pend;have h2:=qco m.b.st.log m.b.st.stable.toNat m.b.st.self
  simp only[BM.st] at h1 h2⊢;omega
 rintro en w1 ⟨A1,c1,rfl,hb1,ho1,hc1,hs1⟩
 have OK1:Hid (OkS (qbY m.b.st)):=hJ (qrt OK.out)
 obtain⟨m1,hm1⟩:∃x,x=({m with b:={m.b with Al:=A1,cl:=c1,log:=qa0 m.b.st (qbQ m.b.st)}}:CM):=⟨_,rfl⟩
 have hcs1:Hid (m1.cs={m.cs with s:=qbY m.b.st}):=hJ (by rw[hm1];rfl)
 have hbs1:Hid (m1.b.st=qbY m.b.st):=hJ (by rw[hm1];rfl)
 have C1:Hid (CS w1 B (qai col w.heap.size 2) p m1):=hJ (by
  subst hm1
  obtain⟨A',c',hv',k1,k2,_⟩:=ho1.slice
  simp only[Value.slice.injEq] at hv'
  have hf:=H.out.fits
  have hlp:=OK1.out.lp
  have hll:=OK1.out.log
  refine⟨hb1,(hs1.hue p hpl).trans H.out.pc,H.out.bp,H.out.lies.relog hs1 (by simp) (by simp) (by simp) (by simp) ho1 hc1,hs1.own H.out.pk H.out.kc (by simp),hs1.colV H.out.pk H.out.kc,H.out.kiK hs1 (by simp),hs1.own H.out.dl H.out.dc (by simp),hs1.colV H.out.dl H.out.dc,?_,H.out.cp⟩
  exact⟨hf.vs,hf.vx,by have:(qa0 m.b.st (qbQ m.b.st)).length≤2000:=hll;simp only;omega,fun e he=>by have:=hlp e he;omega,hf.pend,hf.pp,hf.marks,hf.fls,hf.fl,⟨by simp only;omega,by simp only;omega⟩⟩)
 have hpk1:m1.pk.length=0:=by rw[hm1];exact hpk
 have hdl1:m1.dl.length=0:=by rw[hm1];exact hdl
 have S1:Hid (Stp B [1,2,3,4,5,7] col w (qai col w.heap.size 2) w1):=hJ (hs1.mono (by simp))
 have HLD:Hid (qhm m.cs=(qaf (qap m1.cs).s.views).2.foldl qaQ (qap m1.cs)):=hJ (by rw[hcs1.out];rfl)
 clear hb1 ho1 hc1 hs1 hm1 H OK hpl hpk hdl;have OKm:Hid (OkS m1.b.st):=hJ (by rw[hbs1.out];exact OK1.out)
 go_wp2_with fail
 refine(qfY m1 B _ p w1 C1.out (by have:=OKm.out.vs;simpa[BM.st,qaI] using this) OKm.out.st0 (fun x hx=>(OKm.out.mks x hx).2) (by omega) (qep OKm.out).1 (fun n _=>qn8 OKm.out n)).mono ?_
 rintro en w2 ⟨m2,col2,rfl,hc2,hm2,hs2⟩
 have C2:=hJ hc2;have S2:=hJ (S1.out.trans hs2)
 obtain⟨k1,k2,k3,k4,k5,k6,k7,k8⟩:=qbi m1.cs
 rw[←hm2] at HLD k1 k2 k3 k4 k5 k6 k7 k8
 have HK:Hid (m2.b.log=m1.b.log∧m2.b.marks=m1.b.marks∧vws m2.b.vs=vws m1.b.vs∧m2.pk.length=0):=hJ ⟨k1,k2,k3,by have:=congrArg List.length k7;simp only[CM.cs,List.length_map] at this;omega⟩
 have hlog:m2.b.log.length≤2000:=by rw[HK.out.1];exact OKm.out.log
 have HLP:Hid (∀e∈m2.b.log,e.p.length≤6000):=hJ (by rw[HK.out.1];exact OKm.out.lp)
 have HMK:Hid (∀x∈m2.b.marks,0≤x.2∧x.2≤(m2.b.log.length:Int)):=hJ (by rw[HK.out.1,HK.out.2.1];exact OKm.out.mks)
 have hvs2:0<m2.b.vs.length:=by
  have h1:=OKm.out.vs
  have h2:=congrArg List.length HK.out.2.2.1
  simp only[BM.st,qaI] at h1 h2;omega
 clear hc2 hs2 hm2 k1 k2 k3 k4 k5 k6 k7 k8;have hfv:=C2.out.fits.vs
 obtain⟨v,hv,hlv,hcall⟩:=qfa m2.b.Av m2.b.cv m2.b.vs w2 C2.out.lies.vs hvs2 (by omega)
 have HCALL:=hJ hcall
 have HXR:Hid (Row w2 v.A (qam v.xs)∧ColR col2 0 v.A (qam v.xs)):=hJ ⟨(C2.out.lies.vs.2 v hv).2 (v.A,qam v.xs) (by simp[qas]),C2.out.lies.vi v hv⟩
 have hx16:v.xs.length≤16:=by
  have h1:=(qep OKm.out).2.1
  have h2:qaf m1.b.st.views=(v.n,v.xs):=by rw[←hlv];show qaf (vws m1.b.vs)=_;rw[HK.out.2.2.1]
  rw[h2] at h1;exact h1
 have HLD2:Hid (qhm m.cs=v.xs.foldl qaQ m2.cs):=hJ (by
  rw[HLD.out]
  show (qaf (vws m2.b.vs)).2.foldl qaQ m2.cs=_
  rw[hlv])
 have q1:w2.cell? (Pq p 1)=some (.slice m2.b.Av m2.b.vs.length m2.b.cv):=C2.out.cell 1
 have hfd:=qbm
 clear hcall hv hlv HLD;obtain⟨nv,Ax,cx,xs⟩:=v
 simp only at HXR hx16 HLD2 HCALL
 go_wp2_with fail
 refine HCALL.out.mono ?_
 rintro en w3 ⟨rfl,hx3⟩
 have X3:=hJ hx3
 clear hx3 q1;go_wp2;go_loopw [21] (fun i wr=>∃(k:Nat) (m':CM) (col':Nat→Nat),k≤xs.length∧i=Jq k∧Hid (CS wr B col' p m')∧Hid (m'.cs=(xs.take k).foldl qaQ m2.cs)∧Hid (Stp B [1,2,3,4,5,7] col2 w2 col' wr)) (fun i _=>xs.length - (intOf i).toNat)
 case atStart=>exact⟨0,m2,col2,Nat.zero_le _,rfl,hJ (C2.out.ext X3.out),hJ rfl,hJ (Stp.ext' C2.out.Bsz X3.out)⟩
 case round=>
  obtain⟨k,m',col',hk,rfl,HC,HM,HS⟩:=hrel
  by_cases hlt:k<xs.length
  ·obtain⟨bb,off,x,hA,hcx,HE⟩:=(HS.out.row HXR.out.1 HXR.out.2 (by simp)).at_ hlt
   subst hA
   have HFS:=hJ (qoC qaQ m2.cs HE.out)
   obtain⟨l1,l2,l3⟩:=qcP (xs.take k) m2.cs
   rw[←HM.out] at l1 l2 l3
   have HKM:Hid (m'.b.st=m2.b.st∧m'.pk.length≤16):=hJ ⟨l1,by have:=HK.out.2.2.2;simp only[CM.cs,List.length_map,List.length_take] at l3;omega⟩
   have hpr:=HC.out.lt
   have q0:=HC.out.cell 0;have q2:=HC.out.cell 2;have q3:=HC.out.cell 3;have q4:=HC.out.cell 4
   have HLR:=hJ HC.out.lies.log.row
   have hfc:=HC.out.fits.cl
   obtain⟨MM,hMM⟩:∃y,y=m':=⟨_,rfl⟩
   have HMM:=hJ hMM
   rw[←hMM] at HC HM
   clear hMM l1 l2 l3;obtain⟨⟨self,base,stable,sent,Av,cv,vs,Al,cl,log,Ap,cp,pend,Am,cm,marks,Af,cf,fls⟩,Ak,ck,pk,Ad,cd,dl⟩:=m'
   have HEQ:Hid (log=m2.b.log∧marks=m2.b.marks∧base=m2.b.base∧self=m2.b.self∧stable=m2.b.stable):=hJ (by
    have h:=HKM.out.1
    simp only[BM.st,St.mk.injEq] at h
    obtain⟨e1,e2,e3,e4,e5,e6,e7,e8,e9⟩:=h
    exact⟨e4,e8,e3,e1,e5⟩)
   replace q0:wr.cell? (Pq p 0)=some (Jq self):=q0
   replace q2:wr.cell? (Pq p 2)=some (Jq base):=q2
   replace q3:wr.cell? (Pq p 3)=some (.slice Al log.length cl):=q3
   replace q4:wr.cell? (Pq p 4)=some (Jq stable):=q4
   simp only at HLR hfc
   have hMcs:Hid (MM.cs.s=⟨self,vws vs,base,log,stable,sent,pend,marks,fls.map FlM.v⟩):=hJ (by rw[HMM.out];rfl)
   by_cases hxs:x=self
   ·have hd:(x == self)=true:=by simpa using hxs
    have HSK:Hid (qaQ MM.cs x=MM.cs):=hJ (qj5 (by rw[hMcs.out];exact hxs))
    clear hxs;go_wp2;go_roundw
    case rel=>exact⟨k+1,MM,col',by omega,by go_num,HC,hJ (by rw[HFS.out,←HM.out,HSK.out]),HS⟩
    case measure=>simp[intOf];omega
   ·have hd:(x == self)=false:=by simpa using hxs
    go_wp2_with fail
    refine(qp1 MM B col' p x wr HC.out).mono ?_
    rintro en w4 ⟨rfl,hx4⟩
    have C4:=hJ (HC.out.ext hx4)
    have X4:=hJ hx4
    have hmmk:Hid (MM.b.marks=marks):=hJ (by rw[HMM.out])
    rw[hmmk.out]
    have p2:w4.cell? (Pq p 2)=some (Jq base):=by rw[hx4.cell (by exact hpr)];exact q2
    have p3:w4.cell? (Pq p 3)=some (.slice Al log.length cl):=by rw[hx4.cell (by exact hpr)];exact q3
    have p4:w4.cell? (Pq p 4)=some (Jq stable):=by rw[hx4.cell (by exact hpr)];exact q4
    have hpr4:p<w4.heap.size:=by have:=hx4.size;omega
    have HLR4:=hJ (HLR.out.ext hx4)
    have hlg:log.length≤2000:=by rw[HEQ.out.1];exact hlog
    have HLP4:Hid (∀e∈log,e.p.length≤6000):=hJ (by rw[HEQ.out.1];exact HLP.out)
    clear hx4 q0 q2 q3 q4 hpr HLR;cases hmf:qgh marks x with
    | none=>
     have HST:Hid (qaQ MM.cs x=qb3 MM.cs x 15 (qav [base]++qbd log)):=hJ (by
      have:=qjR (c:=MM.cs) (x:=x) (by rw[hMcs.out];exact hxs) (by rw[hMcs.out];exact hmf)
      rw[this,hMcs.out])
     clear hmf;obtain⟨bd,hbd⟩:∃l,l=qav [base]++qbd log:=⟨_,rfl⟩
     have HBD:=hJ hbd
     have hbl:bd.length≤100000000:=by rw[hbd];exact qfM (by have:=qaD [base];simp at this;omega) hlg HLP4.out
     rw[←hbd] at HST
     clear hbd;simp only[Option.getD_none,Option.isSome_none]
     go_wp2;refine qac 15 (fun w'=>w'.cell? (Pq p 2)=some (Jq base)∧w'.cell? (Pq p 3)=some (.slice Al log.length cl)) (by kernel_rfl) ⟨by simpa using p2,by simpa using p3⟩ (fun hHeld=>?_)
     refine E_t 0 40 ?_;refine E_t 1 41 ?_;refine E_t 2 42 ?_;refine E_t 3 43 ?_;refine E_t 4 44 ?_;refine E_t 5 45 ?_;refine E_t 6 46 ?_;refine E_t 9 49 ?_;refine E_t 10 50 ?_;refine E_t 11 51 ?_;refine E_t 12 52 ?_;refine E_t 13 53 ?_;refine E_r 7 (some 47) fun K hK=>?_
     go_simp;clear hHeld;refine hK.out _ _ ⟨(qag hpr4).trans p2,(qag hpr4).trans p3⟩ (fun hHeld=>?_)
     clear hK K;try simp only[Act.put,aP1,aP2,aP3]
     refine E_r 8 (some 48) fun K hK=>?_
     go_simp;go_at_call 48;refine(qbP _ 1 [base] _ (by exact qsy (qff _ _) (by simp)) (by simp)).mono ?_
     rintro en w6 ⟨A2,c2,rfl,h21,h22,ho2,hx2⟩
     have X2:Hid (Ext w4 w6):=hJ (((Ext.new _ _).trans Ext.drew1).trans hx2)
     have HR2:=hJ ho2.row
     clear ho2 hx2;have r2:w6.cell? (Pq p 2)=some (Jq base):=by rw[X2.out.cell (by exact hpr4)];exact p2
     have r3:w6.cell? (Pq p 3)=some (.slice Al log.length cl):=by rw[X2.out.cell (by exact hpr4)];exact p3
     clear hHeld;refine hK.out _ _ ⟨r2,r3⟩ (fun hHeld=>?_)
     clear hK K;try simp only[Act.put,aP1,aP2,aP3]
     refine E_r 14 (some 54) fun K hK=>?_
     go_simp;go_at_call 52;refine(qcf A2 Al c2 cl (qav [base]) log _ HR2.out (by have:=qaD [base];simp at this;omega) ⟨h21,h22⟩ (HLR4.out.ext X2.out) hlg HLP4.out).mono ?_
     rintro e3 w3' ⟨A3,c3,rfl,h31,h32,ho3,hx3⟩
     rw[←HBD.out] at h31 ho3⊢
     have X3':Hid (Ext w4 w3'):=hJ (X2.out.trans hx3)
     have HR3:=hJ ho3.row
     clear ho3 hx3;have s2:w3'.cell? (Pq p 2)=some (Jq base):=by rw[X3'.out.cell (by exact hpr4)];exact p2
     have s3:w3'.cell? (Pq p 3)=some (.slice Al log.length cl):=by rw[X3'.out.cell (by exact hpr4)];exact p3
     clear hHeld;refine hK.out _ _ ⟨s2,s3⟩ (fun hHeld=>?_)
     clear hK K;try simp only[Act.put,aP1,aP2,aP3]
     refine qbc (by rfl) (by kernel_rfl) ?_
     go_wp2_with fail
     refine(qfj MM B col' p x 15 A3 c3 bd w3' (C4.out.ext X3'.out) HR3.out hbl (by decide) (by have:=HKM.out.2;rw[HMM.out];simp only at this⊢;omega)).mono ?_
     rintro en w5 ⟨m5,col5,rfl,hc5,hm5,hs5⟩
     exact qqP
    | some st=>
     have hstb:0≤st∧st≤(log.length:Int):=by
      unfold qgh at hmf
      cases hfd:marks.find? (fun y=>y.1 == x) with
      | none=>rw[hfd] at hmf;cases hmf
      | some y=>
       rw[hfd] at hmf
       simp only[Option.map_some,Option.some.injEq] at hmf
       have:=HMK.out y (by rw[←HEQ.out.2.1];exact List.mem_of_find?_eq_some hfd)
       rw[HEQ.out.1,←hmf];exact this
     obtain⟨sn,rfl⟩:∃sn:Nat,st=(sn:Int):=⟨st.toNat,by omega⟩
     obtain⟨en,hen⟩:∃en:Nat,en=min (sn+16) log.length:=⟨_,rfl⟩
     have hen1:sn≤en∧en≤log.length:=by omega
     have HEN:=hJ hen
     have HST:Hid (qaQ MM.cs x=qb3 MM.cs x 12 (qav [base,(sn:Int),stable]++qbd ((log.take en).drop sn))):=hJ (by
      have:=qj0 (c:=MM.cs) (x:=x) (st:=(sn:Int)) (by rw[hMcs.out];exact hxs) (by rw[hMcs.out];exact hmf)
      rw[this,hMcs.out]
      simp only
      have e1:(min ((sn:Int)+16) (log.length:Int))=(en:Int):=by omega
      rw[e1];rfl)
     clear hmf;obtain⟨bd,hbd⟩:∃l,l=qav [base,(sn:Int),stable]++qbd ((log.take en).drop sn):=⟨_,rfl⟩
     have HBD:=hJ hbd
     have hbl:bd.length≤100000000:=by rw[hbd];exact qfM (by have:=qaD [base,(sn:Int),stable];simp at this;omega) (by rw[List.length_drop,List.length_take];omega) (fun e he=>HLP4.out e (List.mem_of_mem_take (List.mem_of_mem_drop he)))
     rw[←hbd] at HST
     have hwn:IntKind.i64.wrap ((sn:Int)+16)=(sn:Int)+16:=IntWalk.i64_in _ (by omega)
     have hmin:min ((sn:Int)+16) (log.length:Int)=(en:Int):=by omega
     have hsl:∀W,(Instr.slice 23 (.slice Al log.length cl) (some (Jq (sn:Int))) (some (Jq (en:Int))) none).run Tryz.prog W=.ok (.slice (qcB Al sn cl 4) (en - sn) (cl - sn)) W:=fun W=>qaz.slice_lh Al log.length cl sn en _ _ rfl rfl hen1.1 (by omega) W
     have HCR:Hid (Row w4 (qcB Al sn cl 4) (qaz.cells ((log.take en).drop sn))):=hJ (Elem.row_sub HLR4.out (by omega) sn en)
     clear hbd hen;simp only[Option.getD_some,Option.isSome_some]
     go_wp2;refine qac 24 (fun w'=>w'.cell? (Pq p 2)=some (Jq base)∧w'.cell? (Pq p 3)=some (.slice Al log.length cl)∧w'.cell? (Pq p 4)=some (Jq stable)) (by kernel_rfl) ⟨by simpa using p2,by simpa using p3,by simpa using p4⟩ (fun hHeld=>?_)
     refine E_t 0 65 ?_;refine E_t 1 66 ?_;refine E_t 2 67 ?_;refine E_t 3 68 ?_;refine E_t 4 69 ?_;refine E_t 5 70 ?_;refine E_t 6 71 ?_;refine E_t 7 72 ?_;refine E_t 8 73 ?_;refine E_t 9 74 ?_;refine E_t 10 75 ?_;refine E_t 11 76 ?_;refine E_t 12 77 ?_;refine E_t 15 80 ?_;refine E_t 16 81 ?_;refine E_t 17 82 ?_;refine E_t 18 83 ?_;refine E_t 19 84 ?_;refine E_t 20 85 ?_;refine E_t 21 86 ?_;refine E_t 22 87 ?_;refine E_r 13 (some 78) fun K hK=>?_
     go_simp;clear hHeld;refine hK.out _ _ ⟨(qag hpr4).trans p2,(qag hpr4).trans p3,(qag hpr4).trans p4⟩ (fun hHeld=>?_)
     clear hK K;try simp only[Act.put,aP1,aP2,aP3]
     refine E_r 14 (some 79) fun K hK=>?_
     go_simp;go_at_call 48;refine(qbP _ 3 [base,(sn:Int),stable] _ (by exact qsy (qhg _ _ _ _) (by simp)) (by simp)).mono ?_
     rintro en w6 ⟨A2,c2,rfl,h21,h22,ho2,hx2⟩
     have X2:Hid (Ext w4 w6):=hJ (((Ext.new _ _).trans Ext.drew1).trans hx2)
     have HR2:=hJ ho2.row
     clear ho2 hx2;have r2:w6.cell? (Pq p 2)=some (Jq base):=by rw[X2.out.cell (by exact hpr4)];exact p2
     have r3:w6.cell? (Pq p 3)=some (.slice Al log.length cl):=by rw[X2.out.cell (by exact hpr4)];exact p3
     have r4:w6.cell? (Pq p 4)=some (Jq stable):=by rw[X2.out.cell (by exact hpr4)];exact p4
     clear hHeld;refine hK.out _ _ ⟨r2,r3,r4⟩ (fun hHeld=>?_)
     clear hK K;try simp only[Act.put,aP1,aP2,aP3]
     refine E_r 23 (some 88) fun K hK=>?_
     go_simp;go_at_call 52;refine(qfJ A2 (qcB Al sn cl 4) c2 (cl - sn) (en - sn) (qav [base,(sn:Int),stable]) ((log.take en).drop sn) _ HR2.out (by have:=qaD [base,(sn:Int),stable];simp at this;omega) ⟨h21,h22⟩ (HCR.out.ext X2.out) (by rw[List.length_drop,List.length_take];omega) (fun e he=>HLP4.out e (List.mem_of_mem_take (List.mem_of_mem_drop he))) (by rw[List.length_drop,List.length_take];omega)).mono ?_
     rintro e3 w3' ⟨A3,c3,rfl,h31,h32,ho3,hx3⟩
     rw[←HBD.out] at h31 ho3⊢
     have X3':Hid (Ext w4 w3'):=hJ (X2.out.trans hx3)
     have HR3:=hJ ho3.row
     clear ho3 hx3;have s2:w3'.cell? (Pq p 2)=some (Jq base):=by rw[X3'.out.cell (by exact hpr4)];exact p2
     have s3:w3'.cell? (Pq p 3)=some (.slice Al log.length cl):=by rw[X3'.out.cell (by exact hpr4)];exact p3
     have s4:w3'.cell? (Pq p 4)=some (Jq stable):=by rw[X3'.out.cell (by exact hpr4)];exact p4
     clear hHeld;refine hK.out _ _ ⟨s2,s3,s4⟩ (fun hHeld=>?_)
     clear hK K;try simp only[Act.put,aP1,aP2,aP3]
     refine qbc (by rfl) (by kernel_rfl) ?_
     go_wp2_with fail
     refine(qfj MM B col' p x 12 A3 c3 bd w3' (C4.out.ext X3'.out) HR3.out hbl (by decide) (by have:=HKM.out.2;rw[HMM.out];simp only at this⊢;omega)).mono ?_
     rintro en' w5 ⟨m5,col5,rfl,hc5,hm5,hs5⟩
     exact qqP
  ·have hkl:xs.take k=xs:=List.take_of_length_le (by omega)
   rw[hkl] at HM
   go_wp2;go_end0;rw[HLD2.out,←HM.out]
   exact⟨m',col',rfl,HC.out,rfl,S2.out.trans HS.out⟩
theorem qga(n:Nat)(c:Cs):((List.range n).foldl qaO c).s=c.s∧((List.range n).foldl qaO c).dl=c.dl∧((List.range n).foldl qaO c).pk.length=c.pk.length+n:=by
 induction n with
 | zero=>exact⟨rfl,rfl,rfl⟩
 | succ n ih=>
  rw[List.range_succ,List.foldl_append]
  obtain⟨h1,h2,h3⟩:=ih
  refine⟨h1,h2,?_⟩
  show ((((List.range n).foldl qaO c).pk++_).length=_)
  rw[List.length_append,h3];simp;omega
theorem qkA(n:Nat)(c:Cs):(List.range (n+1)).foldl qaO c=qaO ((List.range n).foldl qaO c) n:=by
 rw[List.range_succ,List.foldl_append];rfl
set_option maxHeartbeats 1000000 in
theorem qlS(m:CM)(B:Nat)(col:Nat→Nat)(p:Nat)(w:World)(h:CS w B col p m)(ok:OkS m.b.st)(hpk:m.pk.length=0) :
  Calls Tryz.prog 46 #[.pointer (some (Pq p 0))] w (qhw B col p w (qdu m.cs)):=by
 have H:=hJ h;have OK:=hJ ok
 have hpl:=h.lt
 have hfv:=h.fits.vs
 have hvs:0<m.b.vs.length:=by have:=ok.vs;simpa[BM.st,qaI] using this
 obtain⟨v,hv,hlv,hcall⟩:=qfa m.b.Av m.b.cv m.b.vs w h.lies.vs hvs (by omega)
 have HCALL:=hJ hcall
 have HXR:Hid (Row w v.A (qam v.xs)):=hJ ((h.lies.vs.2 v hv).2 (v.A,qam v.xs) (by simp[qas]))
 have hx16:v.xs.length≤16:=by
  have h1:=(qep ok).2.1
  have h2:qaf m.b.st.views=(v.n,v.xs):=hlv
  rw[h2] at h1;exact h1
 obtain⟨sq,hsq⟩:∃s,qbl (v.n,v.xs)=s:=⟨_,rfl⟩
 have HLV:=hJ hlv
 have HSQ:=hJ hsq
 obtain⟨c1,hc1⟩:∃c,c=qb3 m.cs sq 13 (qav [m.b.base,(m.b.log.length:Int)]):=⟨_,rfl⟩
 have HC1:=hJ hc1
 have HFF:Hid (qdu m.cs=(List.range (qdz m.b.st)).foldl qaO c1):=hJ (by
  rw[hc1,←hsq,←hlv];rfl)
 have q1:=h.cell 1;have q0:=h.cell 0;have q2:=h.cell 2;have q3:=h.cell 3
 have hlen:=ok.log
 have HLR0:=hJ h.lies.log.row
 clear h ok hcall hv hlv hc1 hsq;obtain⟨nv,Ax,cx,xs⟩:=v
 simp only at HXR hx16 HCALL HSQ HLV
 obtain⟨M,hM⟩:∃y,y=m:=⟨_,rfl⟩
 have HM:=hJ hM
 rw[←hM] at H OK HC1 HFF⊢
 clear hM;obtain⟨⟨self,base,stable,sent,Av,cv,vs,Al,cl,log,Ap,cp,pend,Am,cm,marks,Af,cf,fls⟩,Ak,ck,pk,Ad,cd,dl⟩:=m
 simp only[BM.st] at hvs hfv hpk HCALL hlen HLR0
 replace q1:w.cell? (Pq p 1)=some (.slice Av vs.length cv):=q1
 replace q0:w.cell? (Pq p 0)=some (Jq self):=q0
 replace q2:w.cell? (Pq p 2)=some (Jq base):=q2
 replace q3:w.cell? (Pq p 3)=some (.slice Al log.length cl):=q3
 go_enter Tryz.func46,Tryz.ntmps46
 go_wp2_with fail
 refine HCALL.out.mono ?_
 rintro en w0 ⟨rfl,hx0⟩
 go_wp2_with fail
 refine(qbw nv Ax cx xs w0 (HXR.out.ext hx0) (by omega) sq HSQ.out).mono ?_
 rintro en w1 ⟨rfl,hx1⟩
 have X1:Hid (Ext w w1):=hJ (hx0.trans hx1)
 have p2:w1.cell? (Pq p 2)=some (Jq base):=by rw[X1.out.cell (by exact hpl)];exact q2
 have p3:w1.cell? (Pq p 3)=some (.slice Al log.length cl):=by rw[X1.out.cell (by exact hpl)];exact q3
 have hp1:p<w1.heap.size:=by have:=X1.out.size;omega
 have C1:=hJ (H.out.ext X1.out)
 obtain⟨bd,hbd⟩:∃l,l=qav [base,(log.length:Int)]:=⟨_,rfl⟩
 have HBD:=hJ hbd
 have hbl:bd.length≤100000000:=by rw[hbd];have:=qaD [base,(log.length:Int)];simp at this;omega
 have HC1':Hid (c1=qb3 M.cs sq 13 bd):=hJ (by rw[HC1.out,HM.out,hbd])
 clear hx0 hx1 q1 q0 q2 q3 hbd;go_wp2;refine qac 15 (fun w'=>w'.cell? (Pq p 2)=some (Jq base)∧w'.cell? (Pq p 3)=some (.slice Al log.length cl)) (by kernel_rfl) ⟨by simpa using p2,by simpa using p3⟩ (fun hHeld=>?_)
 refine E_t 0 11 ?_;refine E_t 1 12 ?_;refine E_t 2 13 ?_;refine E_t 3 14 ?_;refine E_t 4 15 ?_;refine E_t 5 16 ?_;refine E_t 6 17 ?_;refine E_t 7 18 ?_;refine E_t 8 19 ?_;refine E_t 9 20 ?_;refine E_t 10 21 ?_;refine E_t 11 22 ?_;refine E_t 12 23 ?_;refine E_r 13 (some 24) fun K hK=>?_
 go_simp;clear hHeld;refine hK.out _ _ ⟨(qag hp1).trans p2,(qag hp1).trans p3⟩ (fun hHeld=>?_)
 clear hK K;try simp only[Act.put,aP1,aP2,aP3]
 refine E_r 14 (some 25) fun K hK=>?_
 go_simp;go_at_call 48;refine(qbP _ 2 [base,(log.length:Int)] _ (by exact qsy (qja _ _ _) (by simp)) (by simp)).mono ?_
 rintro e2 w6 ⟨A2,c2,rfl,h21,h22,ho2,hx2⟩
 rw[←HBD.out] at h21 ho2⊢
 have X6:Hid (Ext w1 w6):=hJ (((Ext.new _ _).trans Ext.drew1).trans hx2)
 have HR2:=hJ ho2.row
 clear ho2 hx2;have r2:w6.cell? (Pq p 2)=some (Jq base):=by rw[X6.out.cell (by exact hp1)];exact p2
 have r3:w6.cell? (Pq p 3)=some (.slice Al log.length cl):=by rw[X6.out.cell (by exact hp1)];exact p3
 clear hHeld;refine hK.out _ _ ⟨r2,r3⟩ (fun hHeld=>?_)
 clear hK K;try simp only[Act.put,aP1,aP2,aP3]
 refine qbc (by rfl) (by kernel_rfl) ?_
 go_wp2_with fail
 refine(qfj M B col p sq 13 A2 c2 bd w6 (C1.out.ext X6.out) HR2.out hbl (by decide) (by rw[HM.out];simp only;omega)).mono ?_
 rintro en w7 ⟨m7,col7,rfl,hc7,hm7,hs7⟩
 have C7:=hJ hc7
 have S7:Hid (Stp B [1,2,3,4,5,7] col w col7 w7):=hJ ((Stp.ext' H.out.Bsz (X1.out.trans X6.out)).trans hs7)
 have HM7:Hid (m7.cs=c1):=hJ (by rw[hm7,HC1'.out])
 have HS7:Hid (m7.b.st=M.b.st∧m7.pk.length=1):=hJ (by
  have h1:m7.cs.s=M.cs.s:=by rw[hm7];rfl
  have h2:m7.cs.pk.length=1:=by
   rw[hm7];show (M.cs.pk++_).length=1
   have:M.cs.pk.length=0:=by rw[HM.out];simp only[CM.cs,List.length_map];exact hpk
   simp[this]
  exact⟨h1,by simpa[CM.cs] using h2⟩)
 have OK7:Hid (OkS m7.b.st):=hJ (by rw[HS7.out.1];exact OK.out)
 have HFF7:Hid (qdu M.cs=(List.range (qdz m7.b.st)).foldl qaO m7.cs):=hJ (by rw[HS7.out.1,HFF.out,HM7.out,HM.out])
 clear hc7 hm7 hs7 p2 p3 r2 r3 hHeld HC1' HC1 HFF HM7 HBD hbl hp1 C1 HR2 X6 X1;obtain⟨M7,hM7⟩:∃y,y=m7:=⟨_,rfl⟩
 have HMM7:=hJ hM7
 have p0:=C7.out.cell 0;have p3:=C7.out.cell 3
 have hp7:=C7.out.lt
 have HLR:=hJ C7.out.lies.log.row
 have hlen7:=OK7.out.log
 have hown7:=OK7.out.own;have hsent7:=OK7.out.sent
 rw[←hM7] at C7 OK7 HFF7 HS7
 clear hM7;have HN7:Hid (qdz M7.b.st=(m7.b.sent - qay m7.b.log m7.b.self).toNat):=hJ (by rw[HMM7.out];rfl)
 obtain⟨⟨self,base,stable,sent,Av,cv,vs,Al,cl,log,Ap,cp,pend,Am,cm,marks,Af,cf,fls⟩,Ak,ck,pk,Ad,cd,dl⟩:=m7
 replace p0:w7.cell? (Pq p 0)=some (Jq self):=p0
 replace p3:w7.cell? (Pq p 3)=some (.slice Al log.length cl):=p3
 simp only[BM.st] at HLR hlen7 hown7 hsent7
 simp only at HN7
 obtain⟨own,hown⟩:∃o,o=qay log self:=⟨_,rfl⟩
 have HOW:=hJ hown
 rw[←hown] at hown7 HN7
 clear hown;have hwo:IntKind.i64.wrap ((own:Int)+1)=(own:Int)+1:=IntWalk.i64_in _ (by omega)
 go_wp2;refine qac 13 (fun w'=>w'.cell? (Pq p 0)=some (Jq self)∧w'.cell? (Pq p 3)=some (.slice Al log.length cl)) (by kernel_rfl) ⟨by simpa using p0,by simpa using p3⟩ (fun hHeld=>?_)
 refine E_t 0 27 ?_;refine E_t 1 28 ?_;refine E_t 2 29 ?_;refine E_t 3 30 ?_;refine E_t 4 31 ?_;refine E_t 5 32 ?_;refine E_t 6 33 ?_;refine E_t 7 34 ?_;refine E_t 8 35 ?_;refine E_t 9 36 ?_;refine E_r 10 (some 37) fun K hK=>?_
 go_simp;go_at_call 91;refine(qck Al cl log self _ (HLR.out.ext Ext.drew1) (by omega)).mono ?_
 rintro e2 w8 ⟨rfl,hx8⟩
 rw[←HOW.out]
 have X8:Hid (Ext w7 w8):=hJ (Ext.drew1.trans hx8)
 clear hx8;have r0:w8.cell? (Pq p 0)=some (Jq self):=by rw[X8.out.cell (by exact hp7)];exact p0
 have r3:w8.cell? (Pq p 3)=some (.slice Al log.length cl):=by rw[X8.out.cell (by exact hp7)];exact p3
 clear hHeld;refine hK.out _ _ ⟨r0,r3⟩ (fun hHeld=>?_)
 clear hK K;try simp only[Act.put,aP1,aP2,aP3]
 refine E_t 11 38 ?_;refine E_t 12 3 ?_;refine qaE (by kernel_rfl) (by rfl) ?_
 go_wp2;clear hHeld r0 r3 p0 p3 hwo;go_loopw [3] (fun sv wr=>∃(j:Nat) (m':CM) (col':Nat→Nat),sv=Jq ((own:Int)+1+(j:Int))∧j≤qdz M7.b.st∧Hid (CS wr B col' p m')∧Hid (m'.cs=(List.range j).foldl qaO M7.cs)∧Hid (Stp B [1,2,3,4,5,7] col7 w7 col' wr)) (fun sv _=>(sent+1 - intOf sv).toNat)
 case atStart=>exact⟨0,M7,col7,by simp,Nat.zero_le _,hJ (C7.out.ext X8.out),hJ rfl,hJ (Stp.ext' C7.out.Bsz X8.out)⟩
 case round=>
  obtain⟨j,m',col',rfl,hj,HC,HMJ,HS⟩:=hrel
  have hj':(j:Int)≤sent - own:=by have:=HN7.out;omega
  obtain⟨l1,l2,l3⟩:=qga j M7.cs
  rw[←HMJ.out] at l1 l2 l3
  have HKM:Hid (m'.b.st=M7.b.st∧m'.pk.length≤1+j):=hJ ⟨l1,by have:=HS7.out.2;simp only[CM.cs,List.length_map] at l3;omega⟩
  have HOKM:Hid (OkS m'.b.st):=hJ (by rw[HKM.out.1];exact OK7.out)
  have p0:=HC.out.cell 0;have p1:=HC.out.cell 1;have p2:=HC.out.cell 2;have p3:=HC.out.cell 3;have p4:=HC.out.cell 4;have p5:=HC.out.cell 5;have p6:=HC.out.cell 6;have p7:=HC.out.cell 7;have p8:=HC.out.cell 8
  have hpr:=HC.out.lt
  have HLr:=hJ HC.out.lies.reads
  have HST0:Hid (m'.b.sent=sent∧qay m'.b.log m'.b.self=own):=hJ (by
   have h:=HKM.out.1
   rw[HMM7.out] at h
   simp only[BM.st,St.mk.injEq] at h
   obtain⟨e1,e2,e3,e4,e5,e6,e7,e8,e9⟩:=h
   exact⟨e6,by rw[e4,e1,HOW.out]⟩)
  have HFS:Hid (qaO m'.cs j=qb3 m'.cs (qbl (qaf m'.cs.s.views)) 11 (qav [m'.b.base,(qay m'.b.log m'.b.self:Int)+1+(j:Int)]++qd5 (qcc m'.b.st ((qay m'.b.log m'.b.self:Int)+1+(j:Int))))):=hJ rfl
  have HSQ':Hid (qbl (qaf m'.cs.s.views)=sq):=hJ (by
   have h1:m'.cs.s.views=M7.b.st.views:=by show m'.b.st.views=_;rw[HKM.out.1]
   rw[h1,HS7.out.1,HM.out]
   show qbl (qaf (vws _))=sq
   rw[HLV.out];exact HSQ.out)
  rw[HSQ'.out] at HFS
  have hpn:=HOKM.out.pn;have hpnd:=HOKM.out.pend
  have hot:=qco m'.b.st.log m'.b.st.stable.toNat m'.b.st.self
  have HPP:=hJ HOKM.out.pp
  obtain⟨MM,hMM⟩:∃y,y=m':=⟨_,rfl⟩
  have HMM:=hJ hMM
  rw[←hMM] at HC HMJ
  have HFS':Hid (qaO MM.cs j=qb3 MM.cs sq 11 (qav [m'.b.base,(qay m'.b.log m'.b.self:Int)+1+(j:Int)]++qd5 (qcc m'.b.st ((qay m'.b.log m'.b.self:Int)+1+(j:Int))))):=hJ (by rw[hMM];exact HFS.out)
  clear hMM l1 l2 l3 HFS HLR;obtain⟨⟨self,base,stable,sent,Av,cv,vs,Al,cl,log,Ap,cp,pend,Am,cm,marks,Af,cf,fls⟩,Ak,ck,pk,Ad,cd,dl⟩:=m'
  simp only at HST0
  obtain⟨hs0,ho0⟩:=HST0.out
  subst hs0
  simp only[BM.st] at hpn hpnd hot HPP
  rw[ho0] at HFS'
  have HO0:=hJ ho0
  have hpd':sent - own≤pend.length:=by rw[ho0] at hot;omega
  clear ho0 hpnd hot HST0;replace p0:wr.cell? (Pq p 0)=some (Jq self):=p0
  replace p1:wr.cell? (Pq p 1)=some (.slice Av vs.length cv):=p1
  replace p2:wr.cell? (Pq p 2)=some (Jq base):=p2
  replace p3:wr.cell? (Pq p 3)=some (.slice Al log.length cl):=p3
  replace p4:wr.cell? (Pq p 4)=some (Jq stable):=p4
  replace p5:wr.cell? (Pq p 5)=some (Jq sent):=p5
  replace p6:wr.cell? (Pq p 6)=some (.slice Ap pend.length cp):=p6
  replace p7:wr.cell? (Pq p 7)=some (.slice Am marks.length cm):=p7
  replace p8:wr.cell? (Pq p 8)=some (.slice Af fls.length cf):=p8
  by_cases hc1:(own:Int)+1+(j:Int)≤sent
  ·have hd1:decide ((own:Int)+1+(j:Int)≤sent)=true:=by simpa using hc1
   obtain⟨ix,hix⟩:∃ix:Nat,(pend.length:Int) - 1 - (sent - ((own:Int)+1+(j:Int)))=(ix:Int):=⟨((pend.length:Int) - 1 - (sent - ((own:Int)+1+(j:Int)))).toNat,by omega⟩
   obtain⟨pl,hpl2⟩:∃pl,pend[ix]?=some pl:=⟨_,List.getElem?_eq_getElem (by omega)⟩
   have HPL:=hJ hpl2
   have hpll:pl.length≤6000:=HPP.out pl (List.mem_of_getElem? hpl2)
   obtain⟨bd,hbd⟩:∃l,l=qav [base,(own:Int)+1+(j:Int)]++qd5 pl:=⟨_,rfl⟩
   have HBD:=hJ hbd
   have hbl:bd.length≤100000000:=by
    rw[hbd]
    have h1:=qaD [base,(own:Int)+1+(j:Int)]
    have h2:=qat (v:=pl.length) (by unfold U64;omega)
    unfold qd5
    simp only[List.length_append,List.length_cons,List.length_nil] at *
    omega
   have HST:Hid (qaO MM.cs j=qb3 MM.cs sq 11 bd):=hJ (by
    rw[HFS'.out,hbd]
    congr 3
    simp only[qcc,BM.st]
    rw[hix]
    simp[hpl2])
   have hws:IntKind.i64.wrap ((own:Int)+1+(j:Int)+1)=(own:Int)+1+(j:Int)+1:=IntWalk.i64_in _ (by omega)
   clear hpl2 hbd;go_wp2;refine qac 17 (fun w'=>w'.cell? (Pq p 0)=some (Jq self)∧w'.cell? (Pq p 1)=some (.slice Av vs.length cv)∧w'.cell? (Pq p 2)=some (Jq base)∧w'.cell? (Pq p 3)=some (.slice Al log.length cl)∧w'.cell? (Pq p 4)=some (Jq stable)∧w'.cell? (Pq p 5)=some (Jq sent)∧w'.cell? (Pq p 6)=some (.slice Ap pend.length cp)∧w'.cell? (Pq p 7)=some (.slice Am marks.length cm)∧w'.cell? (Pq p 8)=some (.slice Af fls.length cf)) (by kernel_rfl) ⟨by simpa using p0,by simpa using p1,by simpa using p2,by simpa using p3,by simpa using p4,by simpa using p5,by simpa using p6,by simpa using p7,by simpa using p8⟩ (fun hHeld=>?_)
   refine E_t 0 48 ?_;refine E_t 1 49 ?_;refine E_t 2 50 ?_;refine E_t 3 51 ?_;refine E_t 4 52 ?_;refine E_t 5 53 ?_;refine E_t 6 54 ?_;refine E_t 7 55 ?_;refine E_t 10 58 ?_;refine E_t 11 59 ?_;refine E_t 12 60 ?_;refine E_t 13 61 ?_;refine E_t 14 62 ?_;refine E_r 8 (some 56) fun K hK=>?_
   go_simp;clear hHeld;refine hK.out _ _ ⟨(qag hpr).trans p0,(qag hpr).trans p1,(qag hpr).trans p2,(qag hpr).trans p3,(qag hpr).trans p4,(qag hpr).trans p5,(qag hpr).trans p6,(qag hpr).trans p7,(qag hpr).trans p8⟩ (fun hHeld=>?_)
   clear hK K;try simp only[Act.put,aP1,aP2,aP3]
   refine E_r 9 (some 57) fun K hK=>?_
   go_simp;go_at_call 48;refine(qbP _ 2 [base,(own:Int)+1+(j:Int)] _ (by exact qsy (qja _ _ _) (by simp)) (by simp)).mono ?_
   rintro e2 w6 ⟨A2,c2,rfl,h21,h22,ho2,hx2⟩
   have X6:Hid (Ext wr w6):=hJ (((Ext.new _ _).trans Ext.drew1).trans hx2)
   have HR2:=hJ ho2.row
   clear ho2 hx2;have r0:w6.cell? (Pq p 0)=some (Jq self):=by rw[X6.out.cell (by exact hpr)];exact p0
   have r1:w6.cell? (Pq p 1)=some (.slice Av vs.length cv):=by rw[X6.out.cell (by exact hpr)];exact p1
   have r2:w6.cell? (Pq p 2)=some (Jq base):=by rw[X6.out.cell (by exact hpr)];exact p2
   have r3:w6.cell? (Pq p 3)=some (.slice Al log.length cl):=by rw[X6.out.cell (by exact hpr)];exact p3
   have r4:w6.cell? (Pq p 4)=some (Jq stable):=by rw[X6.out.cell (by exact hpr)];exact p4
   have r5:w6.cell? (Pq p 5)=some (Jq sent):=by rw[X6.out.cell (by exact hpr)];exact p5
   have r6:w6.cell? (Pq p 6)=some (.slice Ap pend.length cp):=by rw[X6.out.cell (by exact hpr)];exact p6
   have r7:w6.cell? (Pq p 7)=some (.slice Am marks.length cm):=by rw[X6.out.cell (by exact hpr)];exact p7
   have r8:w6.cell? (Pq p 8)=some (.slice Af fls.length cf):=by rw[X6.out.cell (by exact hpr)];exact p8
   clear hHeld;refine hK.out _ _ ⟨r0,r1,r2,r3,r4,r5,r6,r7,r8⟩ (fun hHeld=>?_)
   clear hK K;try simp only[Act.put,aP1,aP2,aP3]
   refine E_r 15 (some 63) fun K hK=>?_
   go_simp;go_at_call 112;refine(qgy ⟨self,base,stable,sent,Av,cv,vs,Al,cl,log,Ap,cp,pend,Am,cm,marks,Af,cf,fls⟩ stable Ap ((own:Int)+1+(j:Int)) ix pl _ rfl (HLr.out.ext X6.out) (by simp only;omega) ⟨by simp only;omega,by simp only;omega⟩ ⟨by omega,by omega⟩ (by simp only;omega) (by exact HPL.out)).mono ?_
   rintro e3 w7' ⟨rfl,hx7⟩
   have X7':Hid (Ext wr w7'):=hJ (X6.out.trans hx7)
   have HR2':=hJ (HR2.out.ext hx7)
   clear hx7;have s0:w7'.cell? (Pq p 0)=some (Jq self):=by rw[X7'.out.cell (by exact hpr)];exact p0
   have s1:w7'.cell? (Pq p 1)=some (.slice Av vs.length cv):=by rw[X7'.out.cell (by exact hpr)];exact p1
   have s2:w7'.cell? (Pq p 2)=some (Jq base):=by rw[X7'.out.cell (by exact hpr)];exact p2
   have s3:w7'.cell? (Pq p 3)=some (.slice Al log.length cl):=by rw[X7'.out.cell (by exact hpr)];exact p3
   have s4:w7'.cell? (Pq p 4)=some (Jq stable):=by rw[X7'.out.cell (by exact hpr)];exact p4
   have s5:w7'.cell? (Pq p 5)=some (Jq sent):=by rw[X7'.out.cell (by exact hpr)];exact p5
   have s6:w7'.cell? (Pq p 6)=some (.slice Ap pend.length cp):=by rw[X7'.out.cell (by exact hpr)];exact p6
   have s7:w7'.cell? (Pq p 7)=some (.slice Am marks.length cm):=by rw[X7'.out.cell (by exact hpr)];exact p7
   have s8:w7'.cell? (Pq p 8)=some (.slice Af fls.length cf):=by rw[X7'.out.cell (by exact hpr)];exact p8
   clear hHeld;refine hK.out _ _ ⟨s0,s1,s2,s3,s4,s5,s6,s7,s8⟩ (fun hHeld=>?_)
   clear hK K;try simp only[Act.put,aP1,aP2,aP3]
   refine E_r 16 (some 64) fun K hK=>?_
   go_simp;go_at_call 120;refine(qd3 A2 c2 (qav [base,(own:Int)+1+(j:Int)]) pl _ HR2'.out (by have:=qaD [base,(own:Int)+1+(j:Int)];simp at this;omega) (by omega)).mono ?_
   rintro e4 w9 ⟨A4,c4,rfl,h41,h42,ho4,hx4⟩
   rw[←HBD.out] at h41 ho4⊢
   have X9:Hid (Ext wr w9):=hJ (X7'.out.trans hx4)
   have HR4:=hJ ho4.row
   clear ho4 hx4;have t0:w9.cell? (Pq p 0)=some (Jq self):=by rw[X9.out.cell (by exact hpr)];exact p0
   have t1:w9.cell? (Pq p 1)=some (.slice Av vs.length cv):=by rw[X9.out.cell (by exact hpr)];exact p1
   have t2:w9.cell? (Pq p 2)=some (Jq base):=by rw[X9.out.cell (by exact hpr)];exact p2
   have t3:w9.cell? (Pq p 3)=some (.slice Al log.length cl):=by rw[X9.out.cell (by exact hpr)];exact p3
   have t4:w9.cell? (Pq p 4)=some (Jq stable):=by rw[X9.out.cell (by exact hpr)];exact p4
   have t5:w9.cell? (Pq p 5)=some (Jq sent):=by rw[X9.out.cell (by exact hpr)];exact p5
   have t6:w9.cell? (Pq p 6)=some (.slice Ap pend.length cp):=by rw[X9.out.cell (by exact hpr)];exact p6
   have t7:w9.cell? (Pq p 7)=some (.slice Am marks.length cm):=by rw[X9.out.cell (by exact hpr)];exact p7
   have t8:w9.cell? (Pq p 8)=some (.slice Af fls.length cf):=by rw[X9.out.cell (by exact hpr)];exact p8
   clear hHeld;refine hK.out _ _ ⟨t0,t1,t2,t3,t4,t5,t6,t7,t8⟩ (fun hHeld=>?_)
   clear hK K;try simp only[Act.put,aP1,aP2,aP3]
   refine qbc (by rfl) (by kernel_rfl) ?_
   go_wp2_with fail
   refine(qfj MM B col' p sq 11 A4 c4 bd w9 (HC.out.ext X9.out) HR4.out hbl (by decide) (by have:=HKM.out.2;rw[HMM.out];simp only at this⊢;omega)).mono ?_
   rintro en w5 ⟨m5,col5,rfl,hc5,hm5,hs5⟩
   have S5:Hid (Stp B [1,2,3,4,5,7] col7 w7 col5 w5):=hJ (HS.out.trans ((Stp.ext' HC.out.Bsz X9.out).trans hs5))
   have hjn:j+1≤qdz M7.b.st:=by have:=HN7.out;omega
   go_wp2;go_roundw
   case rel=>exact⟨j+1,m5,col5,by go_num,hjn,hJ hc5,hJ (by rw[hm5,qkA,←HMJ.out,HST.out]),S5⟩
   case measure=>simp[intOf];omega
  ·have hd1:decide ((own:Int)+1+(j:Int)≤sent)=false:=by simpa using hc1
   have hjn:j=qdz M7.b.st:=by have:=HN7.out;omega
   subst hjn
   go_wp2;go_end0;rw[HFF7.out,←HMJ.out]
   exact⟨MM,col',rfl,HC.out,rfl,S7.out.trans HS.out⟩
def qq7(n:Nat)(m:CM):Prop:=NewAt n m.Ak (pkE.cells m.pk)∧∀k∈m.pk,NewAt n k.A (qad k.bs)
def qqs(w:World)(r:Cs)(en:Ending)(w':World):Prop:=
 ∃m:CM,en=.returned (.tuple #[.agg m.b.cells,.slice m.Ak m.pk.length m.ck,.slice m.Ad m.dl.length m.cd])∧m.cs=r∧m.b.Reads w'∧m.b.Fits∧pkE.Box w' m.Ak m.pk∧Row w' m.Ad (qaz.cells m.dl)∧Ext w w'∧m.b.New w.heap.size∧NewAt w.heap.size m.Ad (qaz.cells m.dl)∧qq7 w.heap.size m
theorem qaV{w:World}{r q i:Nat}{a0 a1 a2 a3 a4 a5 a6 a7 a8:Value}(h:q≠r):((((((((((w.setCell (Pq r 0) (a0)).setCell (Pq r 1) (a1)).setCell (Pq r 2) (a2)).setCell (Pq r 3) (a3)).setCell (Pq r 4) (a4)).setCell (Pq r 5) (a5)).setCell (Pq r 6) (a6)).setCell (Pq r 7) (a7)).setCell (Pq r 8) (a8))).drew.cell? (Pq q i)=w.cell? (Pq q i):=by
 have f:∀(W:World) (i':Nat) (v:Value),(W.setCell (Pq r i') v).cell? (Pq q i)=W.cell? (Pq q i):=fun W i' v=>World.cell?_setCell_far W _ _ v (Ne.symm h)
 have g:∀W:World,W.drew.cell? (Pq q i)=W.cell? (Pq q i):=fun _=>rfl
 rw[g,f,f,f,f,f,f,f,f,f]
theorem qp7{w wE W:World}{B p:Nat}{col col':Nat→Nat}{m:CM}{r:Cs}(h:CS wE B col p m)(s:Stp w.heap.size [8] col wE col' W)(hr:m.cs=r)(hx:Ext w W)(hc:∀k,k<w.heap.size→col k=8):qqs w r (.returned (.tuple #[.agg m.b.cells,.slice m.Ak m.pk.length m.ck,.slice m.Ad m.dl.length m.cd])) W:=by
 refine⟨m,rfl,hr,?_,h.fits,⟨?_,fun k hk=>⟨(h.ki k hk).1,fun r hr=>?_⟩⟩,s.row h.dl.row (h.dc.row h.dl) (by simp),hx,h.lies.new hc,(h.dc.row h.dl).new hc (by decide),(h.kc.row h.pk).new hc (by decide),fun k hk=>(h.ki k hk).2.2.new hc (by decide)⟩
 ·have:=h.lies
  exact⟨⟨s.row this.vs.1 this.vc (by simp),fun v hv=>⟨(this.vs.2 v hv).1,fun r hr=>by have hr':=hr;simp only[qas,List.mem_cons,List.not_mem_nil,or_false] at hr;subst hr;exact s.row ((this.vs.2 v hv).2 _ hr') (this.vi v hv) (by simp)⟩⟩,s.row this.log.row (this.lc.row this.log) (by simp),s.row this.pend this.pc (by simp),s.row this.marks.row (this.mc.row this.marks) (by simp),s.row this.fls.row (this.fc.row this.fls) (by simp),fun f hf=>⟨(this.fi f hf).1,fun r hr=>by simp only[flE,List.mem_cons,List.not_mem_nil,or_false] at hr;subst hr;exact s.row (this.fi f hf).2.1 (this.fi f hf).2.2 (by simp)⟩⟩
 ·exact s.row h.pk.row (h.kc.row h.pk) (by simp)
 ·simp only[pkE,List.mem_cons,List.not_mem_nil,or_false] at hr
  subst hr
  exact s.row (h.ki k hk).2.1 (h.ki k hk).2.2 (by simp)
theorem qsD{w:World}{B:Nat}{col:Nat→Nat}{b:BM}(hl:b.Lies w B col)(hf:b.Fits)(hp:b.pend.length≤b.cp)(hB:B≤w.heap.size)(v:Value)(t:TypeId) :
  CS ((w.alloc (.cells (⟨b,none,0,[],none,0,[]⟩:CM).cells 86)).alloc (.cells #[v] t)) B (qai (qai col w.heap.size 1) (w.heap.size+1) 8) w.heap.size ⟨b,none,0,[],none,0,[]⟩:=by
 have e:Ext w ((w.alloc (.cells (⟨b,none,0,[],none,0,[]⟩:CM).cells 86)).alloc (.cells #[v] t)):=(Ext.new _ _).trans (Ext.new _ _)
 refine⟨(BIs.new _ _ _).ext (Ext.new _ _),by rw[qah (by omega),qbu (Nat.le_refl _)],hB,hl.ext e (fun k hk=>by rw[qah (by omega),qah hk]),Elem.Own.nil _ _,fun q hq=>by simp[Value.ownBlock] at hq,fun k hk=>by simp at hk,Elem.Own.nil _ _,fun q hq=>by simp[Value.ownBlock] at hq,hf,hp⟩
theorem qi3 {P : Prop} (h : P := by
 go_wp2;have BF:Hid (BIs (((((((((w1.setCell (Pv w 0) (Jq 0)).setCell (Pv w 1) Zq).setCell (Pv w 2) (Jq 0)).setCell (Pv w 3) Zq).setCell (Pv w 4) (Jq 0)).setCell (Pv w 5) (Jq 0)).setCell (Pv w 6) Zq).setCell (Pv w 7) Zq).setCell (Pv w 8) Zq) (w.heap.size+1) Yq 28):=hJ (qaJ BR1.out)
 have XFF:Hid (Ext w (((((((((w1.setCell (Pv w 0) (Jq 0)).setCell (Pv w 1) Zq).setCell (Pv w 2) (Jq 0)).setCell (Pv w 3) Zq).setCell (Pv w 4) (Jq 0)).setCell (Pv w 5) (Jq 0)).setCell (Pv w 6) Zq).setCell (Pv w 7) Zq).setCell (Pv w 8) Zq)):=hJ (qak.ext (E0.out.trans X1.out) (by omega))
 generalize (((((((((w1.setCell (Pv w 0) (Jq 0)).setCell (Pv w 1) Zq).setCell (Pv w 2) (Jq 0)).setCell (Pv w 3) Zq).setCell (Pv w 4) (Jq 0)).setCell (Pv w 5) (Jq 0)).setCell (Pv w 6) Zq).setCell (Pv w 7) Zq).setCell (Pv w 8) Zq)=W at *
 obtain⟨e0,e1,e2,e3,e4,e5,e6,e7,e8⟩:=qbC BF.out
 refine bodyPost_ret (v:=.tuple #[.agg Yq,Jq 1]) (by simp[results,Tryz.results22,go_sem,e0,e1,e2,e3,e4,e5,e6,e7,e8]) rfl ?_
 exact qdR HF.out XFF.out) : P := h
theorem qfd{w:World}{n:Int}{A:Option Addr}{c:Nat}{xs:List Int}(hr:Row w A (qam xs))(h1:xs.length≤c)(h2:c≤maxLen):qas.Box (w.alloc (.cells #[Jq n,.slice A xs.length c] 46)) (some (Pq w.heap.size 0)) [⟨n,A,c,xs⟩]:=by
 refine⟨fun _=>⟨w.heap.size,0,rfl,by simp,fun j q hj=>?_⟩,fun v hv=>?_⟩
 ·simp only[Elem.cells,qas,List.flatMap_cons,List.flatMap_nil,List.append_nil] at hj
  match j,hj with
  | 0,hj=>simpa using hj
  | 1,hj=>simpa using hj
 ·simp only[List.mem_cons,List.not_mem_nil,or_false] at hv
  subst hv
  refine⟨⟨h1,h2⟩,fun r hr'=>?_⟩
  simp only[qas,List.mem_cons,List.not_mem_nil,or_false] at hr'
  subst hr'
  exact hr.ext (Ext.new _ _)
theorem qeX{w u W:World}{self n:Int}{A2:Option Addr}{c2 s3 s8:Nat}{xs:List Int}(hb:qas.Box u (some (Pq s3 0)) [⟨n,A2,c2,xs⟩])(hl:Row u (some (Pq s8 0)) (qaz.cells [qab n xs]))(h9:Wrote (w.heap.size+1) u W)(hx:Ext w W)(h3:w.heap.size+1<s3)(h8:w.heap.size+1<s8)
  (hn:∀q,qam xs≠[]→A2=some q→w.heap.size+1<q.block) (hxs:xs.length≤16) :
  qhO w (⟨self,[(n,xs)],n,[qab n xs],0,0,[],[],[]⟩,0) (.returned (.tuple #[.agg #[Jq self,.slice (some (Pq s3 0)) 1 1,Jq n,.slice (some (Pq s8 0)) 1 1,Jq 0,Jq 0,Zq,Zq,Zq],Jq 0])) W:=by
 have row:∀{A:Option Addr} {vs:List Value},Row u A vs→(∀q,vs≠[]→A=some q→q.block≠w.heap.size+1)→Row W A vs:=by
  intro A vs hr hne hx'
  obtain⟨b,off,k1,k2,k3⟩:=hr hx'
  exact⟨b,off,k1,Nat.lt_of_lt_of_le k2 h9.size,fun j v hj=>(World.cell?_of_block (a:=⟨b,off+j,none⟩) (h9.blk k2 (hne ⟨b,off,none⟩ hx' k1))).trans (k3 j v hj)⟩
 refine⟨⟨self,n,0,0,some (Pq s3 0),1,[⟨n,A2,c2,xs⟩],some (Pq s8 0),1,[qab n xs],none,0,[],none,0,[],none,0,[]⟩,rfl,rfl,⟨⟨row hb.1 (fun q _ hq=>by cases hq;exact Nat.ne_of_gt h3),fun v hv=>⟨(hb.2 v hv).1,fun r hr=>?_⟩⟩,row hl (fun q _ hq=>by cases hq;exact Nat.ne_of_gt h8),Row.nil _ _,Row.nil _ _,Elem.Box.nil _ _⟩,?_,hx,⟨fun q _ hq=>by cases hq;show w.heap.size≤s3;omega,fun v hv q hne hq=>by simp only[List.mem_cons,List.not_mem_nil,or_false] at hv;subst hv;have:=hn q hne hq;omega,fun q _ hq=>by cases hq;show w.heap.size≤s8;omega,fun _ h=>by simp[Elem.cells] at h,fun _ h=>by simp[Elem.cells] at h,fun _ h=>by simp[Elem.cells] at h,fun _ h=>by simp at h⟩⟩
 ·have hv':=hv
  simp only[List.mem_cons,List.not_mem_nil,or_false] at hv
  subst hv
  have hr':=hr
  simp only[qas,List.mem_cons,List.not_mem_nil,or_false] at hr
  subst hr
  exact row ((hb.2 _ hv').2 _ hr') (fun q hne hq=>Nat.ne_of_gt (hn q hne hq))
 ·have hp:=qeC n xs
  refine⟨by simp,fun v hv=>?_,by simp,fun e he=>?_,by simp,fun _ h=>by simp at h,by simp,by simp,fun _ h=>by simp at h,by simp[maxLen]⟩
  ·simp only[List.mem_cons,List.not_mem_nil,or_false] at hv;subst hv;simp only;omega
  ·simp only[List.mem_cons,List.not_mem_nil,or_false] at he;subst he;simp only[qab];omega
set_option maxHeartbeats 1000000 in
theorem qc2(n:Int)(A:Option Addr)(c:Nat)(xs:List Int)(self:Int)(w:World)(h:Row w A (qam xs))(hx:xs.length≤1000000) :
  Calls Tryz.prog 22 #[.agg #[Jq n,.slice A xs.length c],Jq self] w (qhO w (qba (n,xs) self)):=by
 have E0:Hid (Ext w ((w.alloc (.cells #[Jq n,.slice A xs.length c] 46)).alloc (.cells Yq 28))):=hJ ((Ext.new _ _).trans (Ext.new _ _))
 have H0:=hJ (h.ext E0.out)
 clear h;by_cases hv:qan n xs=true
 ·have HV:=hJ hv
  by_cases hm:qbr xs self=true
  ·have HM:=hJ hm
   have hx16:=(qaH hv).2
   have HG:Hid (qba (n,xs) self=(⟨self,[(n,xs)],n,[qab n xs],0,0,[],[],[]⟩,0)):=hJ (by unfold qba;simp only[hv,hm,Bool.and_self,if_true])
   clear hv hm;go_enter Tryz.func22,Tryz.ntmps22
   go_wp2_with fail
   refine(qcZ n A c xs _ H0.out (by omega)).mono ?_
   rintro en w1 ⟨rfl,hx1⟩
   have X1:=hJ hx1
   have H1:=hJ (H0.out.ext hx1)
   have BR1:Hid (BIs w1 (w.heap.size+1) Yq 28):=hJ (by have:=BIs.ext (BIs.new (w.alloc (.cells #[Jq n,.slice A xs.length c] 46)) Yq 28) hx1;simpa using this)
   have q0:w1.cell? (Pw w 0)=some (Jq n):=(((BIs.new w #[Jq n,.slice A xs.length c] 46).ext (Ext.new _ _)).ext hx1).cell 0
   have q1:w1.cell? (Pw w 1)=some (.slice A xs.length c):=(((BIs.new w #[Jq n,.slice A xs.length c] 46).ext (Ext.new _ _)).ext hx1).cell 1
   have hp1:w.heap.size<w1.heap.size:=by have:=BR1.out.lt;omega
   clear hx1;obtain⟨y0,y1,y2,y3,y4,y5,y6,y7,y8⟩:=qbC BR1.out
   obtain⟨z0,z1,z2,z3,z4,z5,z6,z7,z8⟩:=BR1.out.free9
   rw[HV.out]
   go_wp2_with fail
   refine(qbH A c xs self w1 H1.out (by omega)).mono ?_
   rintro en w1' ⟨rfl,rfl⟩
   rw[HM.out]
   have hp2:Hid (w.heap.size+1<w1.heap.size):=hJ BR1.out.lt
   go_wp2;refine qac 10 (fun w'=>w'.cell? (Pw w 0)=some (Jq n)∧w'.cell? (Pw w 1)=some (.slice A xs.length c)) (by kernel_rfl) ⟨by simpa using q0,by simpa using q1⟩ (fun hHeld=>?_)
   refine E_t 0 17 ?_;refine E_t 1 18 ?_;refine E_t 4 21 ?_;refine E_t 5 22 ?_;refine E_t 6 23 ?_;refine qc3 [2] (by kernel_rfl) (by simp) ?_
   refine AllE.cons (o:=⟨some 19,_,_,_,_,_⟩) rfl (fun K hK=>?_) (AllE.nil)
   go_simp;go_at_call 86;refine(qcJ n A c xs _ (H1.out.ext Ext.drew1) hx).mono ?_
   rintro en u1 ⟨A2,c2,rfl,h21,h22,HR2,HN2,hx2⟩
   have X2:Hid (Ext w1 u1):=hJ (Ext.drew1.trans hx2)
   clear hx2;have u1_0:u1.cell? (Pw w 0)=some (Jq n):=by rw[X2.out.cell (by exact hp1)];exact q0
   have u1_1:u1.cell? (Pw w 1)=some (.slice A xs.length c):=by rw[X2.out.cell (by exact hp1)];exact q1
   clear hHeld;refine hK.out _ _ ⟨u1_0,u1_1⟩ (fun hHeld=>?_)
   clear hK K;refine qc3 [3,7] (by kernel_rfl) (by simp) ?_
   refine AllE.cons (o:=⟨some 20,_,_,_,_,_⟩) rfl (fun K hK=>?_) (AllE.cons (o:=⟨some 24,_,_,_,_,_⟩) rfl (fun K hK=>?_) (AllE.nil))
   ·go_simp
    have X4:Hid (Ext w1 (u1.alloc (.cells #[Jq n,.slice A2 xs.length c2] 46))):=hJ (X2.out.trans (Ext.new _ _))
    have F5:Hid (Row (u1.alloc (.cells #[Jq n,.slice A2 xs.length c2] 46)) A2 (qam xs)):=hJ (HR2.out.ext (Ext.new _ _))
    have F6:Hid (qas.Box (u1.alloc (.cells #[Jq n,.slice A2 xs.length c2] 46)) (some (Pw u1 0)) [⟨n,A2,c2,xs⟩]):=hJ (qfd HR2.out h21 h22)
    generalize (u1.alloc (.cells #[Jq n,.slice A2 xs.length c2] 46))=u3 at *
    have u3_0:u3.cell? (Pw w 0)=some (Jq n):=by rw[X4.out.cell (by exact hp1)];exact q0
    have u3_1:u3.cell? (Pw w 1)=some (.slice A xs.length c):=by rw[X4.out.cell (by exact hp1)];exact q1
    clear hHeld;refine hK.out _ _ ⟨u3_0,u3_1⟩ (fun hHeld=>?_)
    clear hK K;try simp only[Act.put,aP1,aP2,aP3]
    refine qc3 [7] (by kernel_rfl) (by simp) ?_
    refine AllE.cons (o:=⟨some 24,_,_,_,_,_⟩) rfl (fun K hK=>?_) (AllE.nil)
    go_simp;go_at_call 87;refine(qcE n A c xs _ (H1.out.ext X4.out) (by omega)).mono ?_
    rintro en u7 ⟨rfl,hx2⟩
    have X8:Hid (Ext w1 u7):=hJ (X4.out.trans hx2)
    have F9:Hid (Row u7 A2 (qam xs)):=hJ (F5.out.ext hx2)
    have F10:Hid (qas.Box u7 (some (Pw u1 0)) [⟨n,A2,c2,xs⟩]):=hJ (F6.out.ext hx2)
    clear hx2;unfold qjG
    have u7_0:u7.cell? (Pw w 0)=some (Jq n):=by rw[X8.out.cell (by exact hp1)];exact q0
    have u7_1:u7.cell? (Pw w 1)=some (.slice A xs.length c):=by rw[X8.out.cell (by exact hp1)];exact q1
    clear hHeld;refine hK.out _ _ ⟨u7_0,u7_1⟩ (fun hHeld=>?_)
    clear hK K;try simp only[Act.put,aP1,aP2,aP3]
    refine qc3 [8] (by kernel_rfl) (by simp) ?_
    refine AllE.cons (o:=⟨some 25,_,_,_,_,_⟩) rfl (fun K hK=>?_) (AllE.nil)
    go_simp;have X12:Hid (Ext w1 (u7.alloc (.cells #[Jq (qab n xs).v,Jq (qab n xs).o,Jq (qab n xs).q,.string (qax (qab n xs).p)] 66))):=hJ (X8.out.trans (Ext.new _ _))
    have F13:Hid (Row (u7.alloc (.cells #[Jq (qab n xs).v,Jq (qab n xs).o,Jq (qab n xs).q,.string (qax (qab n xs).p)] 66)) A2 (qam xs)):=hJ (F9.out.ext (Ext.new _ _))
    have F14:Hid (qas.Box (u7.alloc (.cells #[Jq (qab n xs).v,Jq (qab n xs).o,Jq (qab n xs).q,.string (qax (qab n xs).p)] 66)) (some (Pw u1 0)) [⟨n,A2,c2,xs⟩]):=hJ (F10.out.ext (Ext.new _ _))
    have F15:Hid (Row (u7.alloc (.cells #[Jq (qab n xs).v,Jq (qab n xs).o,Jq (qab n xs).q,.string (qax (qab n xs).p)] 66)) (some (Pw u7 0)) (qaz.cells [qab n xs])):=hJ (qdl (qab n xs) u7)
    generalize (u7.alloc (.cells #[Jq (qab n xs).v,Jq (qab n xs).o,Jq (qab n xs).q,.string (qax (qab n xs).p)] 66))=u11 at *
    have u11_0:u11.cell? (Pw w 0)=some (Jq n):=by rw[X12.out.cell (by exact hp1)];exact q0
    have u11_1:u11.cell? (Pw w 1)=some (.slice A xs.length c):=by rw[X12.out.cell (by exact hp1)];exact q1
    clear hHeld;refine hK.out _ _ ⟨u11_0,u11_1⟩ (fun hHeld=>?_)
    clear hK K;try simp only[Act.put,aP1,aP2,aP3]
    refine E_t 9 26 ?_;refine qbc (by rfl) (by kernel_rfl) ?_
    have BRE:=hJ (BR1.out.ext X12.out)
    obtain⟨y0,y1,y2,y3,y4,y5,y6,y7,y8⟩:=qbC BRE.out
    obtain⟨z0,z1,z2,z3,z4,z5,z6,z7,z8⟩:=BRE.out.free9
    have hz:=X12.out.size
    go_wp2;have BF:Hid (BIs (((((((((u11.setCell (Pv w 0) (Jq self)).setCell (Pv w 1) (.slice (some (Pw u1 0)) 1 1)).setCell (Pv w 2) (Jq n)).setCell (Pv w 3) (.slice (some (Pw u7 0)) 1 1)).setCell (Pv w 4) (Jq 0)).setCell (Pv w 5) (Jq 0)).setCell (Pv w 6) Zq).setCell (Pv w 7) Zq).setCell (Pv w 8) Zq) (w.heap.size+1) #[Jq self,.slice (some (Pw u1 0)) 1 1,Jq n,.slice (some (Pw u7 0)) 1 1,Jq 0,Jq 0,Zq,Zq,Zq] 28):=hJ (qaJ BRE.out)
    have W9:Hid (Wrote (w.heap.size+1) u11 (((((((((u11.setCell (Pv w 0) (Jq self)).setCell (Pv w 1) (.slice (some (Pw u1 0)) 1 1)).setCell (Pv w 2) (Jq n)).setCell (Pv w 3) (.slice (some (Pw u7 0)) 1 1)).setCell (Pv w 4) (Jq 0)).setCell (Pv w 5) (Jq 0)).setCell (Pv w 6) Zq).setCell (Pv w 7) Zq).setCell (Pv w 8) Zq)):=hJ qak
    have XFF:Hid (Ext w (((((((((u11.setCell (Pv w 0) (Jq self)).setCell (Pv w 1) (.slice (some (Pw u1 0)) 1 1)).setCell (Pv w 2) (Jq n)).setCell (Pv w 3) (.slice (some (Pw u7 0)) 1 1)).setCell (Pv w 4) (Jq 0)).setCell (Pv w 5) (Jq 0)).setCell (Pv w 6) Zq).setCell (Pv w 7) Zq).setCell (Pv w 8) Zq)):=hJ (qak.ext ((E0.out.trans X1.out).trans X12.out) (by omega))
    generalize (((((((((u11.setCell (Pv w 0) (Jq self)).setCell (Pv w 1) (.slice (some (Pw u1 0)) 1 1)).setCell (Pv w 2) (Jq n)).setCell (Pv w 3) (.slice (some (Pw u7 0)) 1 1)).setCell (Pv w 4) (Jq 0)).setCell (Pv w 5) (Jq 0)).setCell (Pv w 6) Zq).setCell (Pv w 7) Zq).setCell (Pv w 8) Zq)=W at *
    obtain⟨e0,e1,e2,e3,e4,e5,e6,e7,e8⟩:=qbC BF.out
    refine bodyPost_ret (v:=.tuple #[.agg #[Jq self,.slice (some (Pw u1 0)) 1 1,Jq n,.slice (some (Pw u7 0)) 1 1,Jq 0,Jq 0,Zq,Zq,Zq],Jq 0]) (by simp[results,Tryz.results22,go_sem,e0,e1,e2,e3,e4,e5,e6,e7,e8]) rfl ?_
    rw[HG.out]
    exact qeX F14.out F15.out W9.out XFF.out (by have:=hp2.out;have:=X2.out.size;omega) (by have:=hp2.out;have:=X8.out.size;omega) (fun q hne hq=>by have h1:w1.heap.size≤q.block:=HN2.out q hne hq;have:=hp2.out;omega) hx16
   ·go_simp
    go_at_call 87;refine(qcE n A c xs _ (H1.out.ext X2.out) (by omega)).mono ?_
    rintro en u16 ⟨rfl,hx2⟩
    have X17:Hid (Ext w1 u16):=hJ (X2.out.trans hx2)
    have F18:Hid (Row u16 A2 (qam xs)):=hJ (HR2.out.ext hx2)
    clear hx2;unfold qjG
    have u16_0:u16.cell? (Pw w 0)=some (Jq n):=by rw[X17.out.cell (by exact hp1)];exact q0
    have u16_1:u16.cell? (Pw w 1)=some (.slice A xs.length c):=by rw[X17.out.cell (by exact hp1)];exact q1
    clear hHeld;refine hK.out _ _ ⟨u16_0,u16_1⟩ (fun hHeld=>?_)
    clear hK K;try simp only[Act.put,aP1,aP2,aP3]
    refine qc3 [3,8] (by kernel_rfl) (by simp) ?_
    refine AllE.cons (o:=⟨some 20,_,_,_,_,_⟩) rfl (fun K hK=>?_) (AllE.cons (o:=⟨some 25,_,_,_,_,_⟩) rfl (fun K hK=>?_) (AllE.nil))
    ·go_simp
     have X20:Hid (Ext w1 (u16.alloc (.cells #[Jq n,.slice A2 xs.length c2] 46))):=hJ (X17.out.trans (Ext.new _ _))
     have F21:Hid (Row (u16.alloc (.cells #[Jq n,.slice A2 xs.length c2] 46)) A2 (qam xs)):=hJ (F18.out.ext (Ext.new _ _))
     have F22:Hid (qas.Box (u16.alloc (.cells #[Jq n,.slice A2 xs.length c2] 46)) (some (Pw u16 0)) [⟨n,A2,c2,xs⟩]):=hJ (qfd F18.out h21 h22)
     generalize (u16.alloc (.cells #[Jq n,.slice A2 xs.length c2] 46))=u19 at *
     have u19_0:u19.cell? (Pw w 0)=some (Jq n):=by rw[X20.out.cell (by exact hp1)];exact q0
     have u19_1:u19.cell? (Pw w 1)=some (.slice A xs.length c):=by rw[X20.out.cell (by exact hp1)];exact q1
     clear hHeld;refine hK.out _ _ ⟨u19_0,u19_1⟩ (fun hHeld=>?_)
     clear hK K;try simp only[Act.put,aP1,aP2,aP3]
     refine qc3 [8] (by kernel_rfl) (by simp) ?_
     refine AllE.cons (o:=⟨some 25,_,_,_,_,_⟩) rfl (fun K hK=>?_) (AllE.nil)
     go_simp;have X24:Hid (Ext w1 (u19.alloc (.cells #[Jq (qab n xs).v,Jq (qab n xs).o,Jq (qab n xs).q,.string (qax (qab n xs).p)] 66))):=hJ (X20.out.trans (Ext.new _ _))
     have F25:Hid (Row (u19.alloc (.cells #[Jq (qab n xs).v,Jq (qab n xs).o,Jq (qab n xs).q,.string (qax (qab n xs).p)] 66)) A2 (qam xs)):=hJ (F21.out.ext (Ext.new _ _))
     have F26:Hid (qas.Box (u19.alloc (.cells #[Jq (qab n xs).v,Jq (qab n xs).o,Jq (qab n xs).q,.string (qax (qab n xs).p)] 66)) (some (Pw u16 0)) [⟨n,A2,c2,xs⟩]):=hJ (F22.out.ext (Ext.new _ _))
     have F27:Hid (Row (u19.alloc (.cells #[Jq (qab n xs).v,Jq (qab n xs).o,Jq (qab n xs).q,.string (qax (qab n xs).p)] 66)) (some (Pw u19 0)) (qaz.cells [qab n xs])):=hJ (qdl (qab n xs) u19)
     generalize (u19.alloc (.cells #[Jq (qab n xs).v,Jq (qab n xs).o,Jq (qab n xs).q,.string (qax (qab n xs).p)] 66))=u23 at *
     have u23_0:u23.cell? (Pw w 0)=some (Jq n):=by rw[X24.out.cell (by exact hp1)];exact q0
     have u23_1:u23.cell? (Pw w 1)=some (.slice A xs.length c):=by rw[X24.out.cell (by exact hp1)];exact q1
     clear hHeld;refine hK.out _ _ ⟨u23_0,u23_1⟩ (fun hHeld=>?_)
     clear hK K;try simp only[Act.put,aP1,aP2,aP3]
     refine E_t 9 26 ?_;refine qbc (by rfl) (by kernel_rfl) ?_
     have BRE:=hJ (BR1.out.ext X24.out)
     obtain⟨y0,y1,y2,y3,y4,y5,y6,y7,y8⟩:=qbC BRE.out
     obtain⟨z0,z1,z2,z3,z4,z5,z6,z7,z8⟩:=BRE.out.free9
     have hz:=X24.out.size
     go_wp2;have BF:Hid (BIs (((((((((u23.setCell (Pv w 0) (Jq self)).setCell (Pv w 1) (.slice (some (Pw u16 0)) 1 1)).setCell (Pv w 2) (Jq n)).setCell (Pv w 3) (.slice (some (Pw u19 0)) 1 1)).setCell (Pv w 4) (Jq 0)).setCell (Pv w 5) (Jq 0)).setCell (Pv w 6) Zq).setCell (Pv w 7) Zq).setCell (Pv w 8) Zq) (w.heap.size+1) #[Jq self,.slice (some (Pw u16 0)) 1 1,Jq n,.slice (some (Pw u19 0)) 1 1,Jq 0,Jq 0,Zq,Zq,Zq] 28):=hJ (qaJ BRE.out)
     have W9:Hid (Wrote (w.heap.size+1) u23 (((((((((u23.setCell (Pv w 0) (Jq self)).setCell (Pv w 1) (.slice (some (Pw u16 0)) 1 1)).setCell (Pv w 2) (Jq n)).setCell (Pv w 3) (.slice (some (Pw u19 0)) 1 1)).setCell (Pv w 4) (Jq 0)).setCell (Pv w 5) (Jq 0)).setCell (Pv w 6) Zq).setCell (Pv w 7) Zq).setCell (Pv w 8) Zq)):=hJ qak
     have XFF:Hid (Ext w (((((((((u23.setCell (Pv w 0) (Jq self)).setCell (Pv w 1) (.slice (some (Pw u16 0)) 1 1)).setCell (Pv w 2) (Jq n)).setCell (Pv w 3) (.slice (some (Pw u19 0)) 1 1)).setCell (Pv w 4) (Jq 0)).setCell (Pv w 5) (Jq 0)).setCell (Pv w 6) Zq).setCell (Pv w 7) Zq).setCell (Pv w 8) Zq)):=hJ (qak.ext ((E0.out.trans X1.out).trans X24.out) (by omega))
     generalize (((((((((u23.setCell (Pv w 0) (Jq self)).setCell (Pv w 1) (.slice (some (Pw u16 0)) 1 1)).setCell (Pv w 2) (Jq n)).setCell (Pv w 3) (.slice (some (Pw u19 0)) 1 1)).setCell (Pv w 4) (Jq 0)).setCell (Pv w 5) (Jq 0)).setCell (Pv w 6) Zq).setCell (Pv w 7) Zq).setCell (Pv w 8) Zq)=W at *
     obtain⟨e0,e1,e2,e3,e4,e5,e6,e7,e8⟩:=qbC BF.out
     refine bodyPost_ret (v:=.tuple #[.agg #[Jq self,.slice (some (Pw u16 0)) 1 1,Jq n,.slice (some (Pw u19 0)) 1 1,Jq 0,Jq 0,Zq,Zq,Zq],Jq 0]) (by simp[results,Tryz.results22,go_sem,e0,e1,e2,e3,e4,e5,e6,e7,e8]) rfl ?_
     rw[HG.out]
     exact qeX F26.out F27.out W9.out XFF.out (by have:=hp2.out;have:=X17.out.size;omega) (by have:=hp2.out;have:=X20.out.size;omega) (fun q hne hq=>by have h1:w1.heap.size≤q.block:=HN2.out q hne hq;have:=hp2.out;omega) hx16
    ·go_simp
     have X29:Hid (Ext w1 (u16.alloc (.cells #[Jq (qab n xs).v,Jq (qab n xs).o,Jq (qab n xs).q,.string (qax (qab n xs).p)] 66))):=hJ (X17.out.trans (Ext.new _ _))
     have F30:Hid (Row (u16.alloc (.cells #[Jq (qab n xs).v,Jq (qab n xs).o,Jq (qab n xs).q,.string (qax (qab n xs).p)] 66)) A2 (qam xs)):=hJ (F18.out.ext (Ext.new _ _))
     have F31:Hid (Row (u16.alloc (.cells #[Jq (qab n xs).v,Jq (qab n xs).o,Jq (qab n xs).q,.string (qax (qab n xs).p)] 66)) (some (Pw u16 0)) (qaz.cells [qab n xs])):=hJ (qdl (qab n xs) u16)
     generalize (u16.alloc (.cells #[Jq (qab n xs).v,Jq (qab n xs).o,Jq (qab n xs).q,.string (qax (qab n xs).p)] 66))=u28 at *
     have u28_0:u28.cell? (Pw w 0)=some (Jq n):=by rw[X29.out.cell (by exact hp1)];exact q0
     have u28_1:u28.cell? (Pw w 1)=some (.slice A xs.length c):=by rw[X29.out.cell (by exact hp1)];exact q1
     clear hHeld;refine hK.out _ _ ⟨u28_0,u28_1⟩ (fun hHeld=>?_)
     clear hK K;try simp only[Act.put,aP1,aP2,aP3]
     refine qc3 [3] (by kernel_rfl) (by simp) ?_
     refine AllE.cons (o:=⟨some 20,_,_,_,_,_⟩) rfl (fun K hK=>?_) (AllE.nil)
     go_simp;have X33:Hid (Ext w1 (u28.alloc (.cells #[Jq n,.slice A2 xs.length c2] 46))):=hJ (X29.out.trans (Ext.new _ _))
     have F34:Hid (Row (u28.alloc (.cells #[Jq n,.slice A2 xs.length c2] 46)) A2 (qam xs)):=hJ (F30.out.ext (Ext.new _ _))
     have F35:Hid (Row (u28.alloc (.cells #[Jq n,.slice A2 xs.length c2] 46)) (some (Pw u16 0)) (qaz.cells [qab n xs])):=hJ (F31.out.ext (Ext.new _ _))
     have F36:Hid (qas.Box (u28.alloc (.cells #[Jq n,.slice A2 xs.length c2] 46)) (some (Pw u28 0)) [⟨n,A2,c2,xs⟩]):=hJ (qfd F30.out h21 h22)
     generalize (u28.alloc (.cells #[Jq n,.slice A2 xs.length c2] 46))=u32 at *
     have u32_0:u32.cell? (Pw w 0)=some (Jq n):=by rw[X33.out.cell (by exact hp1)];exact q0
     have u32_1:u32.cell? (Pw w 1)=some (.slice A xs.length c):=by rw[X33.out.cell (by exact hp1)];exact q1
     clear hHeld;refine hK.out _ _ ⟨u32_0,u32_1⟩ (fun hHeld=>?_)
     clear hK K;try simp only[Act.put,aP1,aP2,aP3]
     refine E_t 9 26 ?_;refine qbc (by rfl) (by kernel_rfl) ?_
     have BRE:=hJ (BR1.out.ext X33.out)
     obtain⟨y0,y1,y2,y3,y4,y5,y6,y7,y8⟩:=qbC BRE.out
     obtain⟨z0,z1,z2,z3,z4,z5,z6,z7,z8⟩:=BRE.out.free9
     have hz:=X33.out.size
     go_wp2;have BF:Hid (BIs (((((((((u32.setCell (Pv w 0) (Jq self)).setCell (Pv w 1) (.slice (some (Pw u28 0)) 1 1)).setCell (Pv w 2) (Jq n)).setCell (Pv w 3) (.slice (some (Pw u16 0)) 1 1)).setCell (Pv w 4) (Jq 0)).setCell (Pv w 5) (Jq 0)).setCell (Pv w 6) Zq).setCell (Pv w 7) Zq).setCell (Pv w 8) Zq) (w.heap.size+1) #[Jq self,.slice (some (Pw u28 0)) 1 1,Jq n,.slice (some (Pw u16 0)) 1 1,Jq 0,Jq 0,Zq,Zq,Zq] 28):=hJ (qaJ BRE.out)
     have W9:Hid (Wrote (w.heap.size+1) u32 (((((((((u32.setCell (Pv w 0) (Jq self)).setCell (Pv w 1) (.slice (some (Pw u28 0)) 1 1)).setCell (Pv w 2) (Jq n)).setCell (Pv w 3) (.slice (some (Pw u16 0)) 1 1)).setCell (Pv w 4) (Jq 0)).setCell (Pv w 5) (Jq 0)).setCell (Pv w 6) Zq).setCell (Pv w 7) Zq).setCell (Pv w 8) Zq)):=hJ qak
     have XFF:Hid (Ext w (((((((((u32.setCell (Pv w 0) (Jq self)).setCell (Pv w 1) (.slice (some (Pw u28 0)) 1 1)).setCell (Pv w 2) (Jq n)).setCell (Pv w 3) (.slice (some (Pw u16 0)) 1 1)).setCell (Pv w 4) (Jq 0)).setCell (Pv w 5) (Jq 0)).setCell (Pv w 6) Zq).setCell (Pv w 7) Zq).setCell (Pv w 8) Zq)):=hJ (qak.ext ((E0.out.trans X1.out).trans X33.out) (by omega))
     generalize (((((((((u32.setCell (Pv w 0) (Jq self)).setCell (Pv w 1) (.slice (some (Pw u28 0)) 1 1)).setCell (Pv w 2) (Jq n)).setCell (Pv w 3) (.slice (some (Pw u16 0)) 1 1)).setCell (Pv w 4) (Jq 0)).setCell (Pv w 5) (Jq 0)).setCell (Pv w 6) Zq).setCell (Pv w 7) Zq).setCell (Pv w 8) Zq)=W at *
     obtain⟨e0,e1,e2,e3,e4,e5,e6,e7,e8⟩:=qbC BF.out
     refine bodyPost_ret (v:=.tuple #[.agg #[Jq self,.slice (some (Pw u28 0)) 1 1,Jq n,.slice (some (Pw u16 0)) 1 1,Jq 0,Jq 0,Zq,Zq,Zq],Jq 0]) (by simp[results,Tryz.results22,go_sem,e0,e1,e2,e3,e4,e5,e6,e7,e8]) rfl ?_
     rw[HG.out]
     exact qeX F36.out F35.out W9.out XFF.out (by have:=hp2.out;have:=X29.out.size;omega) (by have:=hp2.out;have:=X17.out.size;omega) (fun q hne hq=>by have h1:w1.heap.size≤q.block:=HN2.out q hne hq;have:=hp2.out;omega) hx16
  ·have HM:Hid (qbr xs self=false):=hJ (by simpa using hm)
   have HF:Hid (qba (n,xs) self=(qcI,1)):=hJ (by unfold qba;simp only[hv,HM.out];rfl)
   clear hv hm;go_enter Tryz.func22,Tryz.ntmps22
   go_wp2_with fail
   refine(qcZ n A c xs _ H0.out (by omega)).mono ?_
   rintro en w1 ⟨rfl,hx1⟩
   have X1:=hJ hx1
   have H1:=hJ (H0.out.ext hx1)
   have BR1:Hid (BIs w1 (w.heap.size+1) Yq 28):=hJ (by have:=BIs.ext (BIs.new (w.alloc (.cells #[Jq n,.slice A xs.length c] 46)) Yq 28) hx1;simpa using this)
   have q0:w1.cell? (Pw w 0)=some (Jq n):=(((BIs.new w #[Jq n,.slice A xs.length c] 46).ext (Ext.new _ _)).ext hx1).cell 0
   have q1:w1.cell? (Pw w 1)=some (.slice A xs.length c):=(((BIs.new w #[Jq n,.slice A xs.length c] 46).ext (Ext.new _ _)).ext hx1).cell 1
   have hp1:w.heap.size<w1.heap.size:=by have:=BR1.out.lt;omega
   clear hx1;obtain⟨y0,y1,y2,y3,y4,y5,y6,y7,y8⟩:=qbC BR1.out
   obtain⟨z0,z1,z2,z3,z4,z5,z6,z7,z8⟩:=BR1.out.free9
   rw[HV.out]
   go_wp2_with fail
   refine(qbH A c xs self w1 H1.out (by omega)).mono ?_
   rintro en w1' ⟨rfl,rfl⟩
   rw[HM.out]
   exact qi3
 ·have HV:Hid (qan n xs=false):=hJ (by simpa using hv)
  have HF:Hid (qba (n,xs) self=(qcI,1)):=hJ (by unfold qba;simp only[HV.out];rfl)
  clear hv;go_enter Tryz.func22,Tryz.ntmps22
  go_wp2_with fail
  refine(qcZ n A c xs _ H0.out (by omega)).mono ?_
  rintro en w1 ⟨rfl,hx1⟩
  have X1:=hJ hx1
  have H1:=hJ (H0.out.ext hx1)
  have BR1:Hid (BIs w1 (w.heap.size+1) Yq 28):=hJ (by have:=BIs.ext (BIs.new (w.alloc (.cells #[Jq n,.slice A xs.length c] 46)) Yq 28) hx1;simpa using this)
  have q0:w1.cell? (Pw w 0)=some (Jq n):=(((BIs.new w #[Jq n,.slice A xs.length c] 46).ext (Ext.new _ _)).ext hx1).cell 0
  have q1:w1.cell? (Pw w 1)=some (.slice A xs.length c):=(((BIs.new w #[Jq n,.slice A xs.length c] 46).ext (Ext.new _ _)).ext hx1).cell 1
  have hp1:w.heap.size<w1.heap.size:=by have:=BR1.out.lt;omega
  clear hx1;obtain⟨y0,y1,y2,y3,y4,y5,y6,y7,y8⟩:=qbC BR1.out
  obtain⟨z0,z1,z2,z3,z4,z5,z6,z7,z8⟩:=BR1.out.free9
  rw[HV.out]
  exact qi3
end Go.Proofs.YtponbabbabnaeaaGreat
