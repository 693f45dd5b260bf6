/- Part 18 of the proof: contracts of functions that the statement reaches. Conditions: as each theorem says. -/
import Derived.Test.YtponbabbabnaeaaGreatQd01
import Derived.Test.YtponbabbabnaeaaGreatQd17
import Derived.Test.YtponbabbabnaeaaGreatQd13
set_option maxRecDepth 100000
namespace Go.Proofs.YtponbabbabnaeaaGreat
open Go.RowKit
def qq7(n:Nat)(m:CM):Prop:=NewAt n m.Ak (pkE.cells m.pk)∧∀k∈m.pk,NewAt n k.A (qad k.bs)
def qqs(w:World)(r:Cs)(en:Ending)(w':World):Prop:=
 ∃m:CM,en=.returned (.tuple #[.agg m.b.cells,.slice m.Ak m.pk.length m.ck,.slice m.Ad m.dl.length m.cd])∧m.cs=r∧m.b.Reads w'∧m.b.Fits∧pkE.Box w' m.Ak m.pk∧Row w' m.Ad (qaz.cells m.dl)∧Ext w w'∧m.b.New w.heap.size∧NewAt w.heap.size m.Ad (qaz.cells m.dl)∧qq7 w.heap.size m
theorem qaV{w:World}{r q i:Nat}{a0 a1 a2 a3 a4 a5 a6 a7 a8:Value}(h:q≠r):((((((((((w.setCell (Pq r 0) (a0)).setCell (Pq r 1) (a1)).setCell (Pq r 2) (a2)).setCell (Pq r 3) (a3)).setCell (Pq r 4) (a4)).setCell (Pq r 5) (a5)).setCell (Pq r 6) (a6)).setCell (Pq r 7) (a7)).setCell (Pq r 8) (a8))).drew.cell? (Pq q i)=w.cell? (Pq q i):=by
 have f:∀(W:World) (i':Nat) (v:Value),(W.setCell (Pq r i') v).cell? (Pq q i)=W.cell? (Pq q i):=fun W i' v=>World.cell?_setCell_far W _ _ v (Ne.symm h)
 have g:∀W:World,W.drew.cell? (Pq q i)=W.cell? (Pq q i):=fun _=>rfl
 rw[g,f,f,f,f,f,f,f,f,f]
theorem qp7{w wE W:World}{B p:Nat}{col col':Nat→Nat}{m:CM}{r:Cs}(h:CS wE B col p m)(s:Stp w.heap.size [8] col wE col' W)(hr:m.cs=r)(hx:Ext w W)(hc:∀k,k<w.heap.size→col k=8):qqs w r (.returned (.tuple #[.agg m.b.cells,.slice m.Ak m.pk.length m.ck,.slice m.Ad m.dl.length m.cd])) W:=by
 refine⟨m,rfl,hr,?_,h.fits,⟨?_,fun k hk=>⟨(h.ki k hk).1,fun r hr=>?_⟩⟩,s.row h.dl.row (h.dc.row h.dl) (by simp),hx,h.lies.new hc,(h.dc.row h.dl).new hc (by decide),(h.kc.row h.pk).new hc (by decide),fun k hk=>(h.ki k hk).2.2.new hc (by decide)⟩
 ·have:=h.lies
  exact⟨⟨s.row this.vs.1 this.vc (by simp),fun v hv=>⟨(this.vs.2 v hv).1,fun r hr=>by have hr':=hr;simp only[qas,List.mem_cons,List.not_mem_nil,or_false] at hr;subst hr;exact s.row ((this.vs.2 v hv).2 _ hr') (this.vi v hv) (by simp)⟩⟩,s.row this.log.row (this.lc.row this.log) (by simp),s.row this.pend this.pc (by simp),s.row this.marks.row (this.mc.row this.marks) (by simp),s.row this.fls.row (this.fc.row this.fls) (by simp),fun f hf=>⟨(this.fi f hf).1,fun r hr=>by simp only[flE,List.mem_cons,List.not_mem_nil,or_false] at hr;subst hr;exact s.row (this.fi f hf).2.1 (this.fi f hf).2.2 (by simp)⟩⟩
 ·exact s.row h.pk.row (h.kc.row h.pk) (by simp)
 ·simp only[pkE,List.mem_cons,List.not_mem_nil,or_false] at hr
  subst hr
  exact s.row (h.ki k hk).2.1 (h.ki k hk).2.2 (by simp)
theorem qsD{w:World}{B:Nat}{col:Nat→Nat}{b:BM}(hl:b.Lies w B col)(hf:b.Fits)(hp:b.pend.length≤b.cp)(hB:B≤w.heap.size)(v:Value)(t:TypeId) :
  CS ((w.alloc (.cells (⟨b,none,0,[],none,0,[]⟩:CM).cells 86)).alloc (.cells #[v] t)) B (qai (qai col w.heap.size 1) (w.heap.size+1) 8) w.heap.size ⟨b,none,0,[],none,0,[]⟩:=by
 have e:Ext w ((w.alloc (.cells (⟨b,none,0,[],none,0,[]⟩:CM).cells 86)).alloc (.cells #[v] t)):=(Ext.new _ _).trans (Ext.new _ _)
 refine⟨(BIs.new _ _ _).ext (Ext.new _ _),by rw[qah (by omega),qbu (Nat.le_refl _)],hB,hl.ext e (fun k hk=>by rw[qah (by omega),qah hk]),Elem.Own.nil _ _,fun q hq=>by simp[Value.ownBlock] at hq,fun k hk=>by simp at hk,Elem.Own.nil _ _,fun q hq=>by simp[Value.ownBlock] at hq,hf,hp⟩
theorem qi3 {P : Prop} (h : P := by
 go_wp2;have BF:Hid (BIs (((((((((w1.setCell (Pv w 0) (Jq 0)).setCell (Pv w 1) Zq).setCell (Pv w 2) (Jq 0)).setCell (Pv w 3) Zq).setCell (Pv w 4) (Jq 0)).setCell (Pv w 5) (Jq 0)).setCell (Pv w 6) Zq).setCell (Pv w 7) Zq).setCell (Pv w 8) Zq) (w.heap.size+1) Yq 28):=hJ (qaJ BR1.out)
 have XFF:Hid (Ext w (((((((((w1.setCell (Pv w 0) (Jq 0)).setCell (Pv w 1) Zq).setCell (Pv w 2) (Jq 0)).setCell (Pv w 3) Zq).setCell (Pv w 4) (Jq 0)).setCell (Pv w 5) (Jq 0)).setCell (Pv w 6) Zq).setCell (Pv w 7) Zq).setCell (Pv w 8) Zq)):=hJ (qak.ext (E0.out.trans X1.out) (by omega))
 generalize (((((((((w1.setCell (Pv w 0) (Jq 0)).setCell (Pv w 1) Zq).setCell (Pv w 2) (Jq 0)).setCell (Pv w 3) Zq).setCell (Pv w 4) (Jq 0)).setCell (Pv w 5) (Jq 0)).setCell (Pv w 6) Zq).setCell (Pv w 7) Zq).setCell (Pv w 8) Zq)=W at *
 obtain⟨e0,e1,e2,e3,e4,e5,e6,e7,e8⟩:=qbC BF.out
 refine bodyPost_ret (v:=.tuple #[.agg Yq,Jq 1]) (by simp[results,Tryz.results22,go_sem,e0,e1,e2,e3,e4,e5,e6,e7,e8]) rfl ?_
 exact qdR HF.out XFF.out) : P := h
theorem qfd{w:World}{n:Int}{A:Option Addr}{c:Nat}{xs:List Int}(hr:Row w A (qam xs))(h1:xs.length≤c)(h2:c≤maxLen):qas.Box (w.alloc (.cells #[Jq n,.slice A xs.length c] 46)) (some (Pq w.heap.size 0)) [⟨n,A,c,xs⟩]:=by
 refine⟨fun _=>⟨w.heap.size,0,rfl,by simp,fun j q hj=>?_⟩,fun v hv=>?_⟩
 ·simp only[Elem.cells,qas,List.flatMap_cons,List.flatMap_nil,List.append_nil] at hj
  match j,hj with
  | 0,hj=>simpa using hj
  | 1,hj=>simpa using hj
 ·simp only[List.mem_cons,List.not_mem_nil,or_false] at hv
  subst hv
  refine⟨⟨h1,h2⟩,fun r hr'=>?_⟩
  simp only[qas,List.mem_cons,List.not_mem_nil,or_false] at hr'
  subst hr'
  exact hr.ext (Ext.new _ _)
theorem qeX{w u W:World}{self n:Int}{A2:Option Addr}{c2 s3 s8:Nat}{xs:List Int}(hb:qas.Box u (some (Pq s3 0)) [⟨n,A2,c2,xs⟩])(hl:Row u (some (Pq s8 0)) (qaz.cells [qab n xs]))(h9:Wrote (w.heap.size+1) u W)(hx:Ext w W)(h3:w.heap.size+1<s3)(h8:w.heap.size+1<s8)
  (hn:∀q,qam xs≠[]→A2=some q→w.heap.size+1<q.block) (hxs:xs.length≤16) :
  qhO w (⟨self,[(n,xs)],n,[qab n xs],0,0,[],[],[]⟩,0) (.returned (.tuple #[.agg #[Jq self,.slice (some (Pq s3 0)) 1 1,Jq n,.slice (some (Pq s8 0)) 1 1,Jq 0,Jq 0,Zq,Zq,Zq],Jq 0])) W:=by
 have row:∀{A:Option Addr} {vs:List Value},Row u A vs→(∀q,vs≠[]→A=some q→q.block≠w.heap.size+1)→Row W A vs:=by
  intro A vs hr hne hx'
  obtain⟨b,off,k1,k2,k3⟩:=hr hx'
  exact⟨b,off,k1,Nat.lt_of_lt_of_le k2 h9.size,fun j v hj=>(World.cell?_of_block (a:=⟨b,off+j,none⟩) (h9.blk k2 (hne ⟨b,off,none⟩ hx' k1))).trans (k3 j v hj)⟩
 refine⟨⟨self,n,0,0,some (Pq s3 0),1,[⟨n,A2,c2,xs⟩],some (Pq s8 0),1,[qab n xs],none,0,[],none,0,[],none,0,[]⟩,rfl,rfl,⟨⟨row hb.1 (fun q _ hq=>by cases hq;exact Nat.ne_of_gt h3),fun v hv=>⟨(hb.2 v hv).1,fun r hr=>?_⟩⟩,row hl (fun q _ hq=>by cases hq;exact Nat.ne_of_gt h8),Row.nil _ _,Row.nil _ _,Elem.Box.nil _ _⟩,?_,hx,⟨fun q _ hq=>by cases hq;show w.heap.size≤s3;omega,fun v hv q hne hq=>by simp only[List.mem_cons,List.not_mem_nil,or_false] at hv;subst hv;have:=hn q hne hq;omega,fun q _ hq=>by cases hq;show w.heap.size≤s8;omega,fun _ h=>by simp[Elem.cells] at h,fun _ h=>by simp[Elem.cells] at h,fun _ h=>by simp[Elem.cells] at h,fun _ h=>by simp at h⟩⟩
 ·have hv':=hv
  simp only[List.mem_cons,List.not_mem_nil,or_false] at hv
  subst hv
  have hr':=hr
  simp only[qas,List.mem_cons,List.not_mem_nil,or_false] at hr
  subst hr
  exact row ((hb.2 _ hv').2 _ hr') (fun q hne hq=>Nat.ne_of_gt (hn q hne hq))
 ·have hp:=qeC n xs
  refine⟨by simp,fun v hv=>?_,by simp,fun e he=>?_,by simp,fun _ h=>by simp at h,by simp,by simp,fun _ h=>by simp at h,by simp[maxLen]⟩
  ·simp only[List.mem_cons,List.not_mem_nil,or_false] at hv;subst hv;simp only;omega
  ·simp only[List.mem_cons,List.not_mem_nil,or_false] at he;subst he;simp only[qab];omega
set_option maxHeartbeats 1000000 in
theorem qc2(n:Int)(A:Option Addr)(c:Nat)(xs:List Int)(self:Int)(w:World)(h:Row w A (qam xs))(hx:xs.length≤1000000) :
  Calls Tryz.prog 22 #[.agg #[Jq n,.slice A xs.length c],Jq self] w (qhO w (qba (n,xs) self)):=by
 have E0:Hid (Ext w ((w.alloc (.cells #[Jq n,.slice A xs.length c] 46)).alloc (.cells Yq 28))):=hJ ((Ext.new _ _).trans (Ext.new _ _))
 have H0:=hJ (h.ext E0.out)
 clear h;by_cases hv:qan n xs=true
 ·have HV:=hJ hv
  by_cases hm:qbr xs self=true
  ·have HM:=hJ hm
   have hx16:=(qaH hv).2
   have HG:Hid (qba (n,xs) self=(⟨self,[(n,xs)],n,[qab n xs],0,0,[],[],[]⟩,0)):=hJ (by unfold qba;simp only[hv,hm,Bool.and_self,if_true])
   clear hv hm;go_enter Tryz.func22,Tryz.ntmps22
   go_wp2_with fail
   refine(qcZ n A c xs _ H0.out (by omega)).mono ?_
   rintro en w1 ⟨rfl,hx1⟩
   have X1:=hJ hx1
   have H1:=hJ (H0.out.ext hx1)
   have BR1:Hid (BIs w1 (w.heap.size+1) Yq 28):=hJ (by have:=BIs.ext (BIs.new (w.alloc (.cells #[Jq n,.slice A xs.length c] 46)) Yq 28) hx1;simpa using this)
   have q0:w1.cell? (Pw w 0)=some (Jq n):=(((BIs.new w #[Jq n,.slice A xs.length c] 46).ext (Ext.new _ _)).ext hx1).cell 0
   have q1:w1.cell? (Pw w 1)=some (.slice A xs.length c):=(((BIs.new w #[Jq n,.slice A xs.length c] 46).ext (Ext.new _ _)).ext hx1).cell 1
   have hp1:w.heap.size<w1.heap.size:=by have:=BR1.out.lt;omega
   clear hx1;obtain⟨y0,y1,y2,y3,y4,y5,y6,y7,y8⟩:=qbC BR1.out
   obtain⟨z0,z1,z2,z3,z4,z5,z6,z7,z8⟩:=BR1.out.free9
   rw[HV.out]
   go_wp2_with fail
   refine(qbH A c xs self w1 H1.out (by omega)).mono ?_
   rintro en w1' ⟨rfl,rfl⟩
   rw[HM.out]
   have hp2:Hid (w.heap.size+1<w1.heap.size):=hJ BR1.out.lt
   go_wp2;refine qac 10 (fun w'=>w'.cell? (Pw w 0)=some (Jq n)∧w'.cell? (Pw w 1)=some (.slice A xs.length c)) (by kernel_rfl) ⟨by simpa using q0,by simpa using q1⟩ (fun hHeld=>?_)
   refine E_t 0 17 ?_;refine E_t 1 18 ?_;refine E_t 4 21 ?_;refine E_t 5 22 ?_;refine E_t 6 23 ?_;refine qc3 [2] (by kernel_rfl) (by simp) ?_
   refine AllE.cons (o:=⟨some 19,_,_,_,_,_⟩) rfl (fun K hK=>?_) (AllE.nil)
   go_simp;go_at_call 86;refine(qcJ n A c xs _ (H1.out.ext Ext.drew1) hx).mono ?_
   rintro en u1 ⟨A2,c2,rfl,h21,h22,HR2,HN2,hx2⟩
   have X2:Hid (Ext w1 u1):=hJ (Ext.drew1.trans hx2)
   clear hx2;have u1_0:u1.cell? (Pw w 0)=some (Jq n):=by rw[X2.out.cell (by exact hp1)];exact q0
   have u1_1:u1.cell? (Pw w 1)=some (.slice A xs.length c):=by rw[X2.out.cell (by exact hp1)];exact q1
   clear hHeld;refine hK.out _ _ ⟨u1_0,u1_1⟩ (fun hHeld=>?_)
   clear hK K;refine qc3 [3,7] (by kernel_rfl) (by simp) ?_
   refine AllE.cons (o:=⟨some 20,_,_,_,_,_⟩) rfl (fun K hK=>?_) (AllE.cons (o:=⟨some 24,_,_,_,_,_⟩) rfl (fun K hK=>?_) (AllE.nil))
   ·go_simp
    have X4:Hid (Ext w1 (u1.alloc (.cells #[Jq n,.slice A2 xs.length c2] 46))):=hJ (X2.out.trans (Ext.new _ _))
    have F5:Hid (Row (u1.alloc (.cells #[Jq n,.slice A2 xs.length c2] 46)) A2 (qam xs)):=hJ (HR2.out.ext (Ext.new _ _))
    have F6:Hid (qas.Box (u1.alloc (.cells #[Jq n,.slice A2 xs.length c2] 46)) (some (Pw u1 0)) [⟨n,A2,c2,xs⟩]):=hJ (qfd HR2.out h21 h22)
    generalize (u1.alloc (.cells #[Jq n,.slice A2 xs.length c2] 46))=u3 at *
    have u3_0:u3.cell? (Pw w 0)=some (Jq n):=by rw[X4.out.cell (by exact hp1)];exact q0
    have u3_1:u3.cell? (Pw w 1)=some (.slice A xs.length c):=by rw[X4.out.cell (by exact hp1)];exact q1
    clear hHeld;refine hK.out _ _ ⟨u3_0,u3_1⟩ (fun hHeld=>?_)
    clear hK K;try simp only[Act.put,aP1,aP2,aP3]
    refine qc3 [7] (by kernel_rfl) (by simp) ?_
    refine AllE.cons (o:=⟨some 24,_,_,_,_,_⟩) rfl (fun K hK=>?_) (AllE.nil)
    go_simp;go_at_call 87;refine(qcE n A c xs _ (H1.out.ext X4.out) (by omega)).mono ?_
    rintro en u7 ⟨rfl,hx2⟩
    have X8:Hid (Ext w1 u7):=hJ (X4.out.trans hx2)
    have F9:Hid (Row u7 A2 (qam xs)):=hJ (F5.out.ext hx2)
    have F10:Hid (qas.Box u7 (some (Pw u1 0)) [⟨n,A2,c2,xs⟩]):=hJ (F6.out.ext hx2)
    clear hx2;unfold qjG
    have u7_0:u7.cell? (Pw w 0)=some (Jq n):=by rw[X8.out.cell (by exact hp1)];exact q0
    have u7_1:u7.cell? (Pw w 1)=some (.slice A xs.length c):=by rw[X8.out.cell (by exact hp1)];exact q1
    clear hHeld;refine hK.out _ _ ⟨u7_0,u7_1⟩ (fun hHeld=>?_)
    clear hK K;try simp only[Act.put,aP1,aP2,aP3]
    refine qc3 [8] (by kernel_rfl) (by simp) ?_
    refine AllE.cons (o:=⟨some 25,_,_,_,_,_⟩) rfl (fun K hK=>?_) (AllE.nil)
    go_simp;have X12:Hid (Ext w1 (u7.alloc (.cells #[Jq (qab n xs).v,Jq (qab n xs).o,Jq (qab n xs).q,.string (qax (qab n xs).p)] 66))):=hJ (X8.out.trans (Ext.new _ _))
    have F13:Hid (Row (u7.alloc (.cells #[Jq (qab n xs).v,Jq (qab n xs).o,Jq (qab n xs).q,.string (qax (qab n xs).p)] 66)) A2 (qam xs)):=hJ (F9.out.ext (Ext.new _ _))
    have F14:Hid (qas.Box (u7.alloc (.cells #[Jq (qab n xs).v,Jq (qab n xs).o,Jq (qab n xs).q,.string (qax (qab n xs).p)] 66)) (some (Pw u1 0)) [⟨n,A2,c2,xs⟩]):=hJ (F10.out.ext (Ext.new _ _))
    have F15:Hid (Row (u7.alloc (.cells #[Jq (qab n xs).v,Jq (qab n xs).o,Jq (qab n xs).q,.string (qax (qab n xs).p)] 66)) (some (Pw u7 0)) (qaz.cells [qab n xs])):=hJ (qdl (qab n xs) u7)
    generalize (u7.alloc (.cells #[Jq (qab n xs).v,Jq (qab n xs).o,Jq (qab n xs).q,.string (qax (qab n xs).p)] 66))=u11 at *
    have u11_0:u11.cell? (Pw w 0)=some (Jq n):=by rw[X12.out.cell (by exact hp1)];exact q0
    have u11_1:u11.cell? (Pw w 1)=some (.slice A xs.length c):=by rw[X12.out.cell (by exact hp1)];exact q1
    clear hHeld;refine hK.out _ _ ⟨u11_0,u11_1⟩ (fun hHeld=>?_)
    clear hK K;try simp only[Act.put,aP1,aP2,aP3]
    refine E_t 9 26 ?_;refine qbc (by rfl) (by kernel_rfl) ?_
    have BRE:=hJ (BR1.out.ext X12.out)
    obtain⟨y0,y1,y2,y3,y4,y5,y6,y7,y8⟩:=qbC BRE.out
    obtain⟨z0,z1,z2,z3,z4,z5,z6,z7,z8⟩:=BRE.out.free9
    have hz:=X12.out.size
    go_wp2;have BF:Hid (BIs (((((((((u11.setCell (Pv w 0) (Jq self)).setCell (Pv w 1) (.slice (some (Pw u1 0)) 1 1)).setCell (Pv w 2) (Jq n)).setCell (Pv w 3) (.slice (some (Pw u7 0)) 1 1)).setCell (Pv w 4) (Jq 0)).setCell (Pv w 5) (Jq 0)).setCell (Pv w 6) Zq).setCell (Pv w 7) Zq).setCell (Pv w 8) Zq) (w.heap.size+1) #[Jq self,.slice (some (Pw u1 0)) 1 1,Jq n,.slice (some (Pw u7 0)) 1 1,Jq 0,Jq 0,Zq,Zq,Zq] 28):=hJ (qaJ BRE.out)
    have W9:Hid (Wrote (w.heap.size+1) u11 (((((((((u11.setCell (Pv w 0) (Jq self)).setCell (Pv w 1) (.slice (some (Pw u1 0)) 1 1)).setCell (Pv w 2) (Jq n)).setCell (Pv w 3) (.slice (some (Pw u7 0)) 1 1)).setCell (Pv w 4) (Jq 0)).setCell (Pv w 5) (Jq 0)).setCell (Pv w 6) Zq).setCell (Pv w 7) Zq).setCell (Pv w 8) Zq)):=hJ qak
    have XFF:Hid (Ext w (((((((((u11.setCell (Pv w 0) (Jq self)).setCell (Pv w 1) (.slice (some (Pw u1 0)) 1 1)).setCell (Pv w 2) (Jq n)).setCell (Pv w 3) (.slice (some (Pw u7 0)) 1 1)).setCell (Pv w 4) (Jq 0)).setCell (Pv w 5) (Jq 0)).setCell (Pv w 6) Zq).setCell (Pv w 7) Zq).setCell (Pv w 8) Zq)):=hJ (qak.ext ((E0.out.trans X1.out).trans X12.out) (by omega))
    generalize (((((((((u11.setCell (Pv w 0) (Jq self)).setCell (Pv w 1) (.slice (some (Pw u1 0)) 1 1)).setCell (Pv w 2) (Jq n)).setCell (Pv w 3) (.slice (some (Pw u7 0)) 1 1)).setCell (Pv w 4) (Jq 0)).setCell (Pv w 5) (Jq 0)).setCell (Pv w 6) Zq).setCell (Pv w 7) Zq).setCell (Pv w 8) Zq)=W at *
    obtain⟨e0,e1,e2,e3,e4,e5,e6,e7,e8⟩:=qbC BF.out
    refine bodyPost_ret (v:=.tuple #[.agg #[Jq self,.slice (some (Pw u1 0)) 1 1,Jq n,.slice (some (Pw u7 0)) 1 1,Jq 0,Jq 0,Zq,Zq,Zq],Jq 0]) (by simp[results,Tryz.results22,go_sem,e0,e1,e2,e3,e4,e5,e6,e7,e8]) rfl ?_
    rw[HG.out]
    exact qeX F14.out F15.out W9.out XFF.out (by have:=hp2.out;have:=X2.out.size;omega) (by have:=hp2.out;have:=X8.out.size;omega) (fun q hne hq=>by have h1:w1.heap.size≤q.block:=HN2.out q hne hq;have:=hp2.out;omega) hx16
   ·go_simp
    go_at_call 87;refine(qcE n A c xs _ (H1.out.ext X2.out) (by omega)).mono ?_
    rintro en u16 ⟨rfl,hx2⟩
    have X17:Hid (Ext w1 u16):=hJ (X2.out.trans hx2)
    have F18:Hid (Row u16 A2 (qam xs)):=hJ (HR2.out.ext hx2)
    clear hx2;unfold qjG
    have u16_0:u16.cell? (Pw w 0)=some (Jq n):=by rw[X17.out.cell (by exact hp1)];exact q0
    have u16_1:u16.cell? (Pw w 1)=some (.slice A xs.length c):=by rw[X17.out.cell (by exact hp1)];exact q1
    clear hHeld;refine hK.out _ _ ⟨u16_0,u16_1⟩ (fun hHeld=>?_)
    clear hK K;try simp only[Act.put,aP1,aP2,aP3]
    refine qc3 [3,8] (by kernel_rfl) (by simp) ?_
    refine AllE.cons (o:=⟨some 20,_,_,_,_,_⟩) rfl (fun K hK=>?_) (AllE.cons (o:=⟨some 25,_,_,_,_,_⟩) rfl (fun K hK=>?_) (AllE.nil))
    ·go_simp
     have X20:Hid (Ext w1 (u16.alloc (.cells #[Jq n,.slice A2 xs.length c2] 46))):=hJ (X17.out.trans (Ext.new _ _))
     have F21:Hid (Row (u16.alloc (.cells #[Jq n,.slice A2 xs.length c2] 46)) A2 (qam xs)):=hJ (F18.out.ext (Ext.new _ _))
     have F22:Hid (qas.Box (u16.alloc (.cells #[Jq n,.slice A2 xs.length c2] 46)) (some (Pw u16 0)) [⟨n,A2,c2,xs⟩]):=hJ (qfd F18.out h21 h22)
     generalize (u16.alloc (.cells #[Jq n,.slice A2 xs.length c2] 46))=u19 at *
     have u19_0:u19.cell? (Pw w 0)=some (Jq n):=by rw[X20.out.cell (by exact hp1)];exact q0
     have u19_1:u19.cell? (Pw w 1)=some (.slice A xs.length c):=by rw[X20.out.cell (by exact hp1)];exact q1
     clear hHeld;refine hK.out _ _ ⟨u19_0,u19_1⟩ (fun hHeld=>?_)
     clear hK K;try simp only[Act.put,aP1,aP2,aP3]
     refine qc3 [8] (by kernel_rfl) (by simp) ?_
     refine AllE.cons (o:=⟨some 25,_,_,_,_,_⟩) rfl (fun K hK=>?_) (AllE.nil)
     go_simp;have X24:Hid (Ext w1 (u19.alloc (.cells #[Jq (qab n xs).v,Jq (qab n xs).o,Jq (qab n xs).q,.string (qax (qab n xs).p)] 66))):=hJ (X20.out.trans (Ext.new _ _))
     have F25:Hid (Row (u19.alloc (.cells #[Jq (qab n xs).v,Jq (qab n xs).o,Jq (qab n xs).q,.string (qax (qab n xs).p)] 66)) A2 (qam xs)):=hJ (F21.out.ext (Ext.new _ _))
     have F26:Hid (qas.Box (u19.alloc (.cells #[Jq (qab n xs).v,Jq (qab n xs).o,Jq (qab n xs).q,.string (qax (qab n xs).p)] 66)) (some (Pw u16 0)) [⟨n,A2,c2,xs⟩]):=hJ (F22.out.ext (Ext.new _ _))
     have F27:Hid (Row (u19.alloc (.cells #[Jq (qab n xs).v,Jq (qab n xs).o,Jq (qab n xs).q,.string (qax (qab n xs).p)] 66)) (some (Pw u19 0)) (qaz.cells [qab n xs])):=hJ (qdl (qab n xs) u19)
     generalize (u19.alloc (.cells #[Jq (qab n xs).v,Jq (qab n xs).o,Jq (qab n xs).q,.string (qax (qab n xs).p)] 66))=u23 at *
     have u23_0:u23.cell? (Pw w 0)=some (Jq n):=by rw[X24.out.cell (by exact hp1)];exact q0
     have u23_1:u23.cell? (Pw w 1)=some (.slice A xs.length c):=by rw[X24.out.cell (by exact hp1)];exact q1
     clear hHeld;refine hK.out _ _ ⟨u23_0,u23_1⟩ (fun hHeld=>?_)
     clear hK K;try simp only[Act.put,aP1,aP2,aP3]
     refine E_t 9 26 ?_;refine qbc (by rfl) (by kernel_rfl) ?_
     have BRE:=hJ (BR1.out.ext X24.out)
     obtain⟨y0,y1,y2,y3,y4,y5,y6,y7,y8⟩:=qbC BRE.out
     obtain⟨z0,z1,z2,z3,z4,z5,z6,z7,z8⟩:=BRE.out.free9
     have hz:=X24.out.size
     go_wp2;have BF:Hid (BIs (((((((((u23.setCell (Pv w 0) (Jq self)).setCell (Pv w 1) (.slice (some (Pw u16 0)) 1 1)).setCell (Pv w 2) (Jq n)).setCell (Pv w 3) (.slice (some (Pw u19 0)) 1 1)).setCell (Pv w 4) (Jq 0)).setCell (Pv w 5) (Jq 0)).setCell (Pv w 6) Zq).setCell (Pv w 7) Zq).setCell (Pv w 8) Zq) (w.heap.size+1) #[Jq self,.slice (some (Pw u16 0)) 1 1,Jq n,.slice (some (Pw u19 0)) 1 1,Jq 0,Jq 0,Zq,Zq,Zq] 28):=hJ (qaJ BRE.out)
     have W9:Hid (Wrote (w.heap.size+1) u23 (((((((((u23.setCell (Pv w 0) (Jq self)).setCell (Pv w 1) (.slice (some (Pw u16 0)) 1 1)).setCell (Pv w 2) (Jq n)).setCell (Pv w 3) (.slice (some (Pw u19 0)) 1 1)).setCell (Pv w 4) (Jq 0)).setCell (Pv w 5) (Jq 0)).setCell (Pv w 6) Zq).setCell (Pv w 7) Zq).setCell (Pv w 8) Zq)):=hJ qak
     have XFF:Hid (Ext w (((((((((u23.setCell (Pv w 0) (Jq self)).setCell (Pv w 1) (.slice (some (Pw u16 0)) 1 1)).setCell (Pv w 2) (Jq n)).setCell (Pv w 3) (.slice (some (Pw u19 0)) 1 1)).setCell (Pv w 4) (Jq 0)).setCell (Pv w 5) (Jq 0)).setCell (Pv w 6) Zq).setCell (Pv w 7) Zq).setCell (Pv w 8) Zq)):=hJ (qak.ext ((E0.out.trans X1.out).trans X24.out) (by omega))
     generalize (((((((((u23.setCell (Pv w 0) (Jq self)).setCell (Pv w 1) (.slice (some (Pw u16 0)) 1 1)).setCell (Pv w 2) (Jq n)).setCell (Pv w 3) (.slice (some (Pw u19 0)) 1 1)).setCell (Pv w 4) (Jq 0)).setCell (Pv w 5) (Jq 0)).setCell (Pv w 6) Zq).setCell (Pv w 7) Zq).setCell (Pv w 8) Zq)=W at *
     obtain⟨e0,e1,e2,e3,e4,e5,e6,e7,e8⟩:=qbC BF.out
     refine bodyPost_ret (v:=.tuple #[.agg #[Jq self,.slice (some (Pw u16 0)) 1 1,Jq n,.slice (some (Pw u19 0)) 1 1,Jq 0,Jq 0,Zq,Zq,Zq],Jq 0]) (by simp[results,Tryz.results22,go_sem,e0,e1,e2,e3,e4,e5,e6,e7,e8]) rfl ?_
     rw[HG.out]
     exact qeX F26.out F27.out W9.out XFF.out (by have:=hp2.out;have:=X17.out.size;omega) (by have:=hp2.out;have:=X20.out.size;omega) (fun q hne hq=>by have h1:w1.heap.size≤q.block:=HN2.out q hne hq;have:=hp2.out;omega) hx16
    ·go_simp
     have X29:Hid (Ext w1 (u16.alloc (.cells #[Jq (qab n xs).v,Jq (qab n xs).o,Jq (qab n xs).q,.string (qax (qab n xs).p)] 66))):=hJ (X17.out.trans (Ext.new _ _))
     have F30:Hid (Row (u16.alloc (.cells #[Jq (qab n xs).v,Jq (qab n xs).o,Jq (qab n xs).q,.string (qax (qab n xs).p)] 66)) A2 (qam xs)):=hJ (F18.out.ext (Ext.new _ _))
     have F31:Hid (Row (u16.alloc (.cells #[Jq (qab n xs).v,Jq (qab n xs).o,Jq (qab n xs).q,.string (qax (qab n xs).p)] 66)) (some (Pw u16 0)) (qaz.cells [qab n xs])):=hJ (qdl (qab n xs) u16)
     generalize (u16.alloc (.cells #[Jq (qab n xs).v,Jq (qab n xs).o,Jq (qab n xs).q,.string (qax (qab n xs).p)] 66))=u28 at *
     have u28_0:u28.cell? (Pw w 0)=some (Jq n):=by rw[X29.out.cell (by exact hp1)];exact q0
     have u28_1:u28.cell? (Pw w 1)=some (.slice A xs.length c):=by rw[X29.out.cell (by exact hp1)];exact q1
     clear hHeld;refine hK.out _ _ ⟨u28_0,u28_1⟩ (fun hHeld=>?_)
     clear hK K;try simp only[Act.put,aP1,aP2,aP3]
     refine qc3 [3] (by kernel_rfl) (by simp) ?_
     refine AllE.cons (o:=⟨some 20,_,_,_,_,_⟩) rfl (fun K hK=>?_) (AllE.nil)
     go_simp;have X33:Hid (Ext w1 (u28.alloc (.cells #[Jq n,.slice A2 xs.length c2] 46))):=hJ (X29.out.trans (Ext.new _ _))
     have F34:Hid (Row (u28.alloc (.cells #[Jq n,.slice A2 xs.length c2] 46)) A2 (qam xs)):=hJ (F30.out.ext (Ext.new _ _))
     have F35:Hid (Row (u28.alloc (.cells #[Jq n,.slice A2 xs.length c2] 46)) (some (Pw u16 0)) (qaz.cells [qab n xs])):=hJ (F31.out.ext (Ext.new _ _))
     have F36:Hid (qas.Box (u28.alloc (.cells #[Jq n,.slice A2 xs.length c2] 46)) (some (Pw u28 0)) [⟨n,A2,c2,xs⟩]):=hJ (qfd F30.out h21 h22)
     generalize (u28.alloc (.cells #[Jq n,.slice A2 xs.length c2] 46))=u32 at *
     have u32_0:u32.cell? (Pw w 0)=some (Jq n):=by rw[X33.out.cell (by exact hp1)];exact q0
     have u32_1:u32.cell? (Pw w 1)=some (.slice A xs.length c):=by rw[X33.out.cell (by exact hp1)];exact q1
     clear hHeld;refine hK.out _ _ ⟨u32_0,u32_1⟩ (fun hHeld=>?_)
     clear hK K;try simp only[Act.put,aP1,aP2,aP3]
     refine E_t 9 26 ?_;refine qbc (by rfl) (by kernel_rfl) ?_
     have BRE:=hJ (BR1.out.ext X33.out)
     obtain⟨y0,y1,y2,y3,y4,y5,y6,y7,y8⟩:=qbC BRE.out
     obtain⟨z0,z1,z2,z3,z4,z5,z6,z7,z8⟩:=BRE.out.free9
     have hz:=X33.out.size
     go_wp2;have BF:Hid (BIs (((((((((u32.setCell (Pv w 0) (Jq self)).setCell (Pv w 1) (.slice (some (Pw u28 0)) 1 1)).setCell (Pv w 2) (Jq n)).setCell (Pv w 3) (.slice (some (Pw u16 0)) 1 1)).setCell (Pv w 4) (Jq 0)).setCell (Pv w 5) (Jq 0)).setCell (Pv w 6) Zq).setCell (Pv w 7) Zq).setCell (Pv w 8) Zq) (w.heap.size+1) #[Jq self,.slice (some (Pw u28 0)) 1 1,Jq n,.slice (some (Pw u16 0)) 1 1,Jq 0,Jq 0,Zq,Zq,Zq] 28):=hJ (qaJ BRE.out)
     have W9:Hid (Wrote (w.heap.size+1) u32 (((((((((u32.setCell (Pv w 0) (Jq self)).setCell (Pv w 1) (.slice (some (Pw u28 0)) 1 1)).setCell (Pv w 2) (Jq n)).setCell (Pv w 3) (.slice (some (Pw u16 0)) 1 1)).setCell (Pv w 4) (Jq 0)).setCell (Pv w 5) (Jq 0)).setCell (Pv w 6) Zq).setCell (Pv w 7) Zq).setCell (Pv w 8) Zq)):=hJ qak
     have XFF:Hid (Ext w (((((((((u32.setCell (Pv w 0) (Jq self)).setCell (Pv w 1) (.slice (some (Pw u28 0)) 1 1)).setCell (Pv w 2) (Jq n)).setCell (Pv w 3) (.slice (some (Pw u16 0)) 1 1)).setCell (Pv w 4) (Jq 0)).setCell (Pv w 5) (Jq 0)).setCell (Pv w 6) Zq).setCell (Pv w 7) Zq).setCell (Pv w 8) Zq)):=hJ (qak.ext ((E0.out.trans X1.out).trans X33.out) (by omega))
     generalize (((((((((u32.setCell (Pv w 0) (Jq self)).setCell (Pv w 1) (.slice (some (Pw u28 0)) 1 1)).setCell (Pv w 2) (Jq n)).setCell (Pv w 3) (.slice (some (Pw u16 0)) 1 1)).setCell (Pv w 4) (Jq 0)).setCell (Pv w 5) (Jq 0)).setCell (Pv w 6) Zq).setCell (Pv w 7) Zq).setCell (Pv w 8) Zq)=W at *
     obtain⟨e0,e1,e2,e3,e4,e5,e6,e7,e8⟩:=qbC BF.out
     refine bodyPost_ret (v:=.tuple #[.agg #[Jq self,.slice (some (Pw u28 0)) 1 1,Jq n,.slice (some (Pw u16 0)) 1 1,Jq 0,Jq 0,Zq,Zq,Zq],Jq 0]) (by simp[results,Tryz.results22,go_sem,e0,e1,e2,e3,e4,e5,e6,e7,e8]) rfl ?_
     rw[HG.out]
     exact qeX F36.out F35.out W9.out XFF.out (by have:=hp2.out;have:=X29.out.size;omega) (by have:=hp2.out;have:=X17.out.size;omega) (fun q hne hq=>by have h1:w1.heap.size≤q.block:=HN2.out q hne hq;have:=hp2.out;omega) hx16
  ·have HM:Hid (qbr xs self=false):=hJ (by simpa using hm)
   have HF:Hid (qba (n,xs) self=(qcI,1)):=hJ (by unfold qba;simp only[hv,HM.out];rfl)
   clear hv hm;go_enter Tryz.func22,Tryz.ntmps22
   go_wp2_with fail
   refine(qcZ n A c xs _ H0.out (by omega)).mono ?_
   rintro en w1 ⟨rfl,hx1⟩
   have X1:=hJ hx1
   have H1:=hJ (H0.out.ext hx1)
   have BR1:Hid (BIs w1 (w.heap.size+1) Yq 28):=hJ (by have:=BIs.ext (BIs.new (w.alloc (.cells #[Jq n,.slice A xs.length c] 46)) Yq 28) hx1;simpa using this)
   have q0:w1.cell? (Pw w 0)=some (Jq n):=(((BIs.new w #[Jq n,.slice A xs.length c] 46).ext (Ext.new _ _)).ext hx1).cell 0
   have q1:w1.cell? (Pw w 1)=some (.slice A xs.length c):=(((BIs.new w #[Jq n,.slice A xs.length c] 46).ext (Ext.new _ _)).ext hx1).cell 1
   have hp1:w.heap.size<w1.heap.size:=by have:=BR1.out.lt;omega
   clear hx1;obtain⟨y0,y1,y2,y3,y4,y5,y6,y7,y8⟩:=qbC BR1.out
   obtain⟨z0,z1,z2,z3,z4,z5,z6,z7,z8⟩:=BR1.out.free9
   rw[HV.out]
   go_wp2_with fail
   refine(qbH A c xs self w1 H1.out (by omega)).mono ?_
   rintro en w1' ⟨rfl,rfl⟩
   rw[HM.out]
   exact qi3
 ·have HV:Hid (qan n xs=false):=hJ (by simpa using hv)
  have HF:Hid (qba (n,xs) self=(qcI,1)):=hJ (by unfold qba;simp only[HV.out];rfl)
  clear hv;go_enter Tryz.func22,Tryz.ntmps22
  go_wp2_with fail
  refine(qcZ n A c xs _ H0.out (by omega)).mono ?_
  rintro en w1 ⟨rfl,hx1⟩
  have X1:=hJ hx1
  have H1:=hJ (H0.out.ext hx1)
  have BR1:Hid (BIs w1 (w.heap.size+1) Yq 28):=hJ (by have:=BIs.ext (BIs.new (w.alloc (.cells #[Jq n,.slice A xs.length c] 46)) Yq 28) hx1;simpa using this)
  have q0:w1.cell? (Pw w 0)=some (Jq n):=(((BIs.new w #[Jq n,.slice A xs.length c] 46).ext (Ext.new _ _)).ext hx1).cell 0
  have q1:w1.cell? (Pw w 1)=some (.slice A xs.length c):=(((BIs.new w #[Jq n,.slice A xs.length c] 46).ext (Ext.new _ _)).ext hx1).cell 1
  have hp1:w.heap.size<w1.heap.size:=by have:=BR1.out.lt;omega
  clear hx1;obtain⟨y0,y1,y2,y3,y4,y5,y6,y7,y8⟩:=qbC BR1.out
  obtain⟨z0,z1,z2,z3,z4,z5,z6,z7,z8⟩:=BR1.out.free9
  rw[HV.out]
  exact qi3
end Go.Proofs.YtponbabbabnaeaaGreat
