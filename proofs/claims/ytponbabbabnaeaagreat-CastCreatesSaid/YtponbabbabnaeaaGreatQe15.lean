/- Part 15 of the proof: contracts of functions that the statement reaches. Conditions: as each theorem says. -/
import Derived.Test.YtponbabbabnaeaaGreatQe01
import Derived.Test.YtponbabbabnaeaaGreatQe08
set_option maxRecDepth 100000
namespace Go.Proofs.YtponbabbabnaeaaGreat
open Go.RowKit
theorem qqm {P : Prop} (h : P := by
 go_simp;clear hHeld;refine hK.out _ _ ⟨(qaj hne1).trans q0,(qaj hne1).trans q1,(qaj hne1).trans q2,(qaj hne1).trans q3,(qaj hne1).trans q4,(qaj hne1).trans q5,(qaj hne2).trans k0,(qaj hne2).trans k1⟩ (fun hHeld=>?_)
 clear hK K;try simp only[Act.put,aP1,aP2,aP3]
 refine E_t 15 3 ?_;refine qaE (by kernel_rfl) (by rfl) ?_
 go_wp2;have BF:Hid (BIs ((((((wf.setCell (Pw w 0) (Jq 12)).setCell (Pw w 1) (Jq a)).setCell (Pw w 2) (Jq b)).setCell (Pw w 3) (Jq st)).setCell (Pw w 4) (.string ⟨#[]⟩)).setCell (Pw w 5) (.slice Ae es.length ce)).drew w.heap.size #[Jq 12,Jq a,Jq b,Jq st,.string ⟨#[]⟩,.slice Ae es.length ce] 110):=hJ ((qce (BIs.ext (BIs.new w _ _) XF.out)).ext Ext.drew1)
 have XFF:Hid (Ext w ((((((wf.setCell (Pw w 0) (Jq 12)).setCell (Pw w 1) (Jq a)).setCell (Pw w 2) (Jq b)).setCell (Pw w 3) (Jq st)).setCell (Pw w 4) (.string ⟨#[]⟩)).setCell (Pw w 5) (.slice Ae es.length ce)).drew):=hJ ((qcv (E0.out.trans XF.out)).trans Ext.drew1)
 generalize ((((((wf.setCell (Pw w 0) (Jq 12)).setCell (Pw w 1) (Jq a)).setCell (Pw w 2) (Jq b)).setCell (Pw w 3) (Jq st)).setCell (Pw w 4) (.string ⟨#[]⟩)).setCell (Pw w 5) (.slice Ae es.length ce)).drew=W at *
 obtain⟨g0,g1,g2,g3,g4,g5⟩:=six BF.out
 refine bodyPost_ret (v:=.tuple #[.agg #[Jq 12,Jq a,Jq b,Jq st,.string ⟨#[]⟩,.slice Ae es.length ce],.bool false]) (by simp[results,Tryz.results72,go_sem,g0,g1,g2,g3,g4,g5]) rfl ?_
 exact .inl ⟨_,_,_,_,_,_,_,_,rfl,HF.out,XFF.out⟩) : P := h
theorem qqL {P : Prop} (h : P := by
 go_simp;clear hHeld;refine hK.out _ _ ⟨(qaj hne1).trans q0,(qaj hne1).trans q1,(qaj hne1).trans q2,(qaj hne1).trans q3,(qaj hne1).trans q4,(qaj hne1).trans q5,(qaj hne2).trans k0,(qaj hne2).trans k1⟩ (fun hHeld=>?_)
 clear hK K;try simp only[Act.put,aP1,aP2,aP3]
 refine E_t 15 3 ?_;refine qaE (by kernel_rfl) (by rfl) ?_
 go_wp2;have BF:Hid (BIs ((((((wf.setCell (Pw w 0) (Jq 15)).setCell (Pw w 1) (Jq a)).setCell (Pw w 2) (Jq 0)).setCell (Pw w 3) (Jq 0)).setCell (Pw w 4) (.string ⟨#[]⟩)).setCell (Pw w 5) (.slice Ae es.length ce)).drew w.heap.size #[Jq 15,Jq a,Jq 0,Jq 0,.string ⟨#[]⟩,.slice Ae es.length ce] 110):=hJ ((qce (BIs.ext (BIs.new w _ _) XF.out)).ext Ext.drew1)
 have XFF:Hid (Ext w ((((((wf.setCell (Pw w 0) (Jq 15)).setCell (Pw w 1) (Jq a)).setCell (Pw w 2) (Jq 0)).setCell (Pw w 3) (Jq 0)).setCell (Pw w 4) (.string ⟨#[]⟩)).setCell (Pw w 5) (.slice Ae es.length ce)).drew):=hJ ((qcv (E0.out.trans XF.out)).trans Ext.drew1)
 generalize ((((((wf.setCell (Pw w 0) (Jq 15)).setCell (Pw w 1) (Jq a)).setCell (Pw w 2) (Jq 0)).setCell (Pw w 3) (Jq 0)).setCell (Pw w 4) (.string ⟨#[]⟩)).setCell (Pw w 5) (.slice Ae es.length ce)).drew=W at *
 obtain⟨g0,g1,g2,g3,g4,g5⟩:=six BF.out
 refine bodyPost_ret (v:=.tuple #[.agg #[Jq 15,Jq a,Jq 0,Jq 0,.string ⟨#[]⟩,.slice Ae es.length ce],.bool false]) (by simp[results,Tryz.results72,go_sem,g0,g1,g2,g3,g4,g5]) rfl ?_
 exact .inl ⟨_,_,_,_,_,_,_,_,rfl,HF.out,XFF.out⟩) : P := h
theorem qqH {P : Prop} (h : P := by
 go_simp;clear hHeld;refine hK.out _ _ ⟨(qaj hne1).trans q0,(qaj hne1).trans q1,(qaj hne1).trans q2,(qaj hne1).trans q3,(qaj hne1).trans q4,(qaj hne1).trans q5,(qaj hne2).trans k0,(qaj hne2).trans k1⟩ (fun hHeld=>?_)
 clear hK K;try simp only[Act.put,aP1,aP2,aP3]
 refine E_t 15 3 ?_;refine qaE (by kernel_rfl) (by rfl) ?_
 go_wp2;have BF:Hid (BIs ((((((wf.setCell (Pw w 0) (Jq 14)).setCell (Pw w 1) (Jq a)).setCell (Pw w 2) (Jq b)).setCell (Pw w 3) (Jq 0)).setCell (Pw w 4) (.string ⟨#[]⟩)).setCell (Pw w 5) (.slice Ae es.length ce)).drew w.heap.size #[Jq 14,Jq a,Jq b,Jq 0,.string ⟨#[]⟩,.slice Ae es.length ce] 110):=hJ ((qce (BIs.ext (BIs.new w _ _) XF.out)).ext Ext.drew1)
 have XFF:Hid (Ext w ((((((wf.setCell (Pw w 0) (Jq 14)).setCell (Pw w 1) (Jq a)).setCell (Pw w 2) (Jq b)).setCell (Pw w 3) (Jq 0)).setCell (Pw w 4) (.string ⟨#[]⟩)).setCell (Pw w 5) (.slice Ae es.length ce)).drew):=hJ ((qcv (E0.out.trans XF.out)).trans Ext.drew1)
 generalize ((((((wf.setCell (Pw w 0) (Jq 14)).setCell (Pw w 1) (Jq a)).setCell (Pw w 2) (Jq b)).setCell (Pw w 3) (Jq 0)).setCell (Pw w 4) (.string ⟨#[]⟩)).setCell (Pw w 5) (.slice Ae es.length ce)).drew=W at *
 obtain⟨g0,g1,g2,g3,g4,g5⟩:=six BF.out
 refine bodyPost_ret (v:=.tuple #[.agg #[Jq 14,Jq a,Jq b,Jq 0,.string ⟨#[]⟩,.slice Ae es.length ce],.bool false]) (by simp[results,Tryz.results72,go_sem,g0,g1,g2,g3,g4,g5]) rfl ?_
 exact .inl ⟨_,_,_,_,_,_,_,_,rfl,HF.out,XFF.out⟩) : P := h
theorem qqw {P : Prop} (h : P := by
 go_simp;clear hHeld;refine hK.out _ _ ⟨(qaj hne1).trans q0,(qaj hne1).trans q1,(qaj hne1).trans q2,(qaj hne1).trans q3,(qaj hne1).trans q4,(qaj hne1).trans q5,(qaj hne2).trans k0,(qaj hne2).trans k1⟩ (fun hHeld=>?_)
 clear hK K;try simp only[Act.put,aP1,aP2,aP3]
 refine E_t 15 3 ?_;refine qaE (by kernel_rfl) (by rfl) ?_
 go_wp2;have BF:Hid (BIs ((((((wf.setCell (Pw w 0) (Jq 13)).setCell (Pw w 1) (Jq a)).setCell (Pw w 2) (Jq b)).setCell (Pw w 3) (Jq 0)).setCell (Pw w 4) (.string ⟨#[]⟩)).setCell (Pw w 5) Zq).drew w.heap.size #[Jq 13,Jq a,Jq b,Jq 0,.string ⟨#[]⟩,Zq] 110):=hJ ((qce (BIs.ext (BIs.new w _ _) XF.out)).ext Ext.drew1)
 have XFF:Hid (Ext w ((((((wf.setCell (Pw w 0) (Jq 13)).setCell (Pw w 1) (Jq a)).setCell (Pw w 2) (Jq b)).setCell (Pw w 3) (Jq 0)).setCell (Pw w 4) (.string ⟨#[]⟩)).setCell (Pw w 5) Zq).drew):=hJ ((qcv (E0.out.trans XF.out)).trans Ext.drew1)
 generalize ((((((wf.setCell (Pw w 0) (Jq 13)).setCell (Pw w 1) (Jq a)).setCell (Pw w 2) (Jq b)).setCell (Pw w 3) (Jq 0)).setCell (Pw w 4) (.string ⟨#[]⟩)).setCell (Pw w 5) Zq).drew=W at *
 obtain⟨g0,g1,g2,g3,g4,g5⟩:=six BF.out
 refine bodyPost_ret (v:=.tuple #[.agg #[Jq 13,Jq a,Jq b,Jq 0,.string ⟨#[]⟩,Zq],.bool false]) (by simp[results,Tryz.results72,go_sem,g0,g1,g2,g3,g4,g5]) rfl ?_
 exact .inl ⟨_,_,_,_,_,_,_,_,rfl,HF.out,XFF.out⟩) : P := h
theorem qqM {P : Prop} (h : P := by
 go_simp;clear hHeld;refine hK.out _ _ ⟨(qaj hne1).trans q0,(qaj hne1).trans q1,(qaj hne1).trans q2,(qaj hne1).trans q3,(qaj hne1).trans q4,(qaj hne1).trans q5,(qaj hne2).trans k0,(qaj hne2).trans k1⟩ (fun hHeld=>?_)
 clear hK K;try simp only[Act.put,aP1,aP2,aP3]
 refine E_t 15 3 ?_;refine qaE (by kernel_rfl) (by rfl) ?_
 go_wp2;have BF:Hid (BIs ((((((wf.setCell (Pw w 0) (Jq 11)).setCell (Pw w 1) (Jq a)).setCell (Pw w 2) (Jq b)).setCell (Pw w 3) (Jq 0)).setCell (Pw w 4) (.string (qax pl))).setCell (Pw w 5) Zq).drew w.heap.size #[Jq 11,Jq a,Jq b,Jq 0,.string (qax pl),Zq] 110):=hJ ((qce (BIs.ext (BIs.new w _ _) XF.out)).ext Ext.drew1)
 have XFF:Hid (Ext w ((((((wf.setCell (Pw w 0) (Jq 11)).setCell (Pw w 1) (Jq a)).setCell (Pw w 2) (Jq b)).setCell (Pw w 3) (Jq 0)).setCell (Pw w 4) (.string (qax pl))).setCell (Pw w 5) Zq).drew):=hJ ((qcv (E0.out.trans XF.out)).trans Ext.drew1)
 generalize ((((((wf.setCell (Pw w 0) (Jq 11)).setCell (Pw w 1) (Jq a)).setCell (Pw w 2) (Jq b)).setCell (Pw w 3) (Jq 0)).setCell (Pw w 4) (.string (qax pl))).setCell (Pw w 5) Zq).drew=W at *
 obtain⟨g0,g1,g2,g3,g4,g5⟩:=six BF.out
 refine bodyPost_ret (v:=.tuple #[.agg #[Jq 11,Jq a,Jq b,Jq 0,.string (qax pl),Zq],.bool false]) (by simp[results,Tryz.results72,go_sem,g0,g1,g2,g3,g4,g5]) rfl ?_
 exact .inl ⟨_,_,_,_,_,_,_,_,rfl,HF.out,XFF.out⟩) : P := h
theorem qqG {P : Prop} (h : P := by
 clear hbad;go_enter Tryz.func72,Tryz.ntmps72
 go_wp2_with fail
 refine(qc7 A c frame _ H0.out hc hl).mono ?_
 rintro en w1 ⟨A1,c1,rfl,h11,h12,ho1,hx1⟩
 have X1:=hJ hx1
 obtain⟨z0,z1,z2,z3,z4,z5⟩:=qbb (BIs.ext (BIs.new w _ _) hx1)
 obtain⟨y0,y1,y2,y3,y4,y5⟩:=six (BIs.ext (BIs.new w _ _) hx1)
 rw[HOP.out] at ho1 h11⊢
 simp only at ho1 h11
 have HB1:=hJ ho1.row
 clear ho1 hx1;go_wp2;have BF:Hid (BIs ((((((w1.setCell (Pw w 0) (Jq 0)).setCell (Pw w 1) (Jq 0)).setCell (Pw w 2) (Jq 0)).setCell (Pw w 3) (Jq 0)).setCell (Pw w 4) (.string ⟨#[]⟩)).setCell (Pw w 5) Zq) w.heap.size #[Jq 0,Jq 0,Jq 0,Jq 0,.string ⟨#[]⟩,Zq] 110):=hJ ((qce (BIs.ext (BIs.new w _ _) X1.out)))
 have XFF:Hid (Ext w ((((((w1.setCell (Pw w 0) (Jq 0)).setCell (Pw w 1) (Jq 0)).setCell (Pw w 2) (Jq 0)).setCell (Pw w 3) (Jq 0)).setCell (Pw w 4) (.string ⟨#[]⟩)).setCell (Pw w 5) Zq)):=hJ ((qcv (E0.out.trans X1.out)))
 generalize ((((((w1.setCell (Pw w 0) (Jq 0)).setCell (Pw w 1) (Jq 0)).setCell (Pw w 2) (Jq 0)).setCell (Pw w 3) (Jq 0)).setCell (Pw w 4) (.string ⟨#[]⟩)).setCell (Pw w 5) Zq)=W at *
 obtain⟨g0,g1,g2,g3,g4,g5⟩:=six BF.out
 refine bodyPost_ret (v:=.tuple #[.agg #[Jq 0,Jq 0,Jq 0,Jq 0,.string ⟨#[]⟩,Zq],.bool false]) (by simp[results,Tryz.results72,go_sem,g0,g1,g2,g3,g4,g5]) rfl ?_
 exact .inl ⟨_,_,_,_,_,_,_,_,rfl,HF.out,XFF.out⟩) : P := h
def qrV(w:World)(frame:List UInt8)(en:Ending)(w':World):Prop:=
 (∃(k n f s:Int) (q:ByteArray) (A:Option Addr) (m c:Nat),en=.returned (.tuple #[.agg #[Jq k,Jq n,Jq f,Jq s,.string q,.slice A m c],.bool false])∧qa3 frame=none∧Ext w w')∨
 (∃(m:Msg) (A:Option Addr) (c:Nat),en=.returned (.tuple #[.agg #[Jq m.kind,Jq m.num,Jq m.first,Jq m.stable,.string (qax m.pay),.slice A m.ents.length c],.bool true])∧qa3 frame=some m∧m.ents.length≤c∧c≤maxLen∧qaz.OB w' w.heap.size (.slice A m.ents.length c) m.ents∧Ext w w')
theorem six{w:World}{p:Nat}{a b c d e f:Value}{t:TypeId}(h:BIs w p #[a,b,c,d,e,f] t):w.cell? (Pq p 0)=some a∧w.cell? (Pq p 1)=some b∧w.cell? (Pq p 2)=some c∧w.cell? (Pq p 3)=some d∧w.cell? (Pq p 4)=some e∧w.cell? (Pq p 5)=some f:=
 ⟨h.cell 0,h.cell 1,h.cell 2,h.cell 3,h.cell 4,h.cell 5⟩
theorem qbb{w:World}{p:Nat}{vals:Array Value}{t:TypeId}(h:BIs w p vals t):w.frozen? (Pq p 0)=false∧w.frozen? (Pq p 1)=false∧w.frozen? (Pq p 2)=false∧w.frozen? (Pq p 3)=false∧w.frozen? (Pq p 4)=false∧w.frozen? (Pq p 5)=false:=
 ⟨h.free 0,h.free 1,h.free 2,h.free 3,h.free 4,h.free 5⟩
theorem qce{w:World}{r:Nat}{x0 x1 x2 x3 x4 x5 a b c d e f:Value}{t:TypeId}(h:BIs w r #[x0,x1,x2,x3,x4,x5] t):BIs ((((((w.setCell (Pq r 0) a).setCell (Pq r 1) b).setCell (Pq r 2) c).setCell (Pq r 3) d).setCell (Pq r 4) e).setCell (Pq r 5) f) r #[a,b,c,d,e,f] t:=
 (((((h.set 0 a).set 1 b).set 2 c).set 3 d).set 4 e).set 5 f
theorem qaj{w:World}{r q i:Nat}{a b c d e f:Value}(h:q≠r):((((((w.setCell (Pq r 0) a).setCell (Pq r 1) b).setCell (Pq r 2) c).setCell (Pq r 3) d).setCell (Pq r 4) e).setCell (Pq r 5) f).drew.cell? (Pq q i)=w.cell? (Pq q i):=by
 have f:∀(W:World) (i':Nat) (v:Value),(W.setCell (Pq r i') v).cell? (Pq q i)=W.cell? (Pq q i):=fun W i' v=>World.cell?_setCell_far W _ _ v (Ne.symm h)
 have g:∀W:World,W.drew.cell? (Pq q i)=W.cell? (Pq q i):=fun _=>rfl
 rw[g,f,f,f,f,f,f]
theorem qnI{w:World}{r B:Nat}{v a b c d e f:Value}{l:List Ent}(h:qaz.OB w B v l)(hr:∀k,v.ownBlock=some k→k≠r):qaz.OB ((((((w.setCell (Pq r 0) a).setCell (Pq r 1) b).setCell (Pq r 2) c).setCell (Pq r 3) d).setCell (Pq r 4) e).setCell (Pq r 5) f) B v l:=
 Wrote.ob ((((((Wrote.set r 0 w a).trans (Wrote.set r 1 _ b)).trans (Wrote.set r 2 _ c)).trans (Wrote.set r 3 _ d)).trans (Wrote.set r 4 _ e)).trans (Wrote.set r 5 _ f)) h hr
theorem Elem.OB.baseOB{α:Type}{E:Elem α}{w:World}{B B':Nat}{v:Value}{l:List α}(h:E.OB w B v l)(hb:B'≤B):E.OB w B' v l:=⟨h.1.base hb,h.2⟩
theorem qlB(b:List UInt8):(qd6 b).2.1.length≤b.length:=by
 unfold qd6
 split
 ·exact Nat.zero_le _
 split
 ·exact Nat.zero_le _
 simp only
 split
 ·exact Nat.zero_le _
 split
 ·exact Nat.zero_le _
 split
 ·exact Nat.zero_le _
 ·simp only[List.length_drop,List.length_take];omega
theorem qcv{w w':World}{a b c d e f:Value}(h:Ext w w'):Ext w ((((((w'.setCell (Pq w.heap.size 0) a).setCell (Pq w.heap.size 1) b).setCell (Pq w.heap.size 2) c).setCell (Pq w.heap.size 3) d).setCell (Pq w.heap.size 4) e).setCell (Pq w.heap.size 5) f):=
 (((((h.set (Nat.le_refl _) a).set (Nat.le_refl _) b).set (Nat.le_refl _) c).set (Nat.le_refl _) d).set (Nat.le_refl _) e).set (Nat.le_refl _) f
set_option maxHeartbeats 2000000 in
theorem qoV(A:Option Addr)(c:Nat)(frame:List UInt8)(w:World)(h:Row w A (qad frame))(hc:frame.length≤c)(hl:frame.length≤1000000) :
  Calls Tryz.prog 72 #[.slice A frame.length c] w (qrV w frame):=by
 have H:=hJ h;clear h
 obtain⟨⟨kind,body,n,er⟩,ho⟩:∃d,qd6 frame=d:=⟨_,rfl⟩
 have HOP:=hJ ho
 clear ho;have H0:Hid (Row (w.alloc (.cells #[Jq 0,Jq 0,Jq 0,Jq 0,.string ⟨#[]⟩,Zq] 110)) A (qad frame)):=hJ (H.out.ext (Ext.new _ _))
 have E0:Hid (Ext w (w.alloc (.cells #[Jq 0,Jq 0,Jq 0,Jq 0,.string ⟨#[]⟩,Zq] 110))):=hJ (Ext.new _ _)
 by_cases hbad:er≠0∨n≠frame.length
 ·have HF:Hid (qa3 frame=none):=hJ (by unfold qa3;rw[HOP.out];simp only;rw[if_pos hbad])
  by_cases he:er=0
  ·subst he
   have hn:((n:Int) != (frame.length:Int))=true:=by
    have:n≠frame.length:=by rcases hbad with h|h;exact absurd rfl h;exact h
    simp only[bne_iff_ne,ne_eq];omega
   exact qqG
  ·have hn:(er != 0)=true:=by simpa using he
   exact qqG
 ·have hen:er=0∧n=frame.length:=by
   constructor
   ·exact Classical.byContradiction fun h=>hbad (.inl h)
   ·exact Classical.byContradiction fun h=>hbad (.inr h)
  obtain⟨rfl,rfl⟩:=hen
  have hbl:Hid (body.length≤1000000):=hJ (by have:=qlB frame;rw[HOP.out] at this;simp only at this;omega)
  by_cases hk11:kind=11
  ·subst hk11
   obtain⟨⟨a,r1⟩,ha⟩:∃d,qdr (body,false)=d:=⟨_,rfl⟩
   have HA:=hJ ha
   obtain⟨⟨b,r2⟩,hc0⟩:∃d,qdr r1=d:=⟨_,rfl⟩
   have HC0:=hJ hc0
   obtain⟨⟨pl,rf⟩,hc1⟩:∃d,qmz r2=d:=⟨_,rfl⟩
   have HC1:=hJ hc1
   have HRF:Hid (qa3 frame=if rf.2=false∧rf.1.length=0 then some ⟨11,a,b,0,pl,[]⟩ else none):=hJ (by unfold qa3;rw[HOP.out];simp only;rw[if_neg hbad];unfold qec;simp only[ha,hc0,hc1,if_true,if_false,Int.reduceEq])
   clear hbad ha hc0 hc1;go_enter Tryz.func72,Tryz.ntmps72
   go_wp2_with fail
   refine(qc7 A c frame _ H0.out hc hl).mono ?_
   rintro en w1 ⟨A1,c1,rfl,h11,h12,ho1,hx1⟩
   have X1:=hJ hx1
   obtain⟨z0,z1,z2,z3,z4,z5⟩:=qbb (BIs.ext (BIs.new w _ _) hx1)
   obtain⟨y0,y1,y2,y3,y4,y5⟩:=six (BIs.ext (BIs.new w _ _) hx1)
   rw[HOP.out] at ho1 h11⊢
   simp only at ho1 h11
   have HB1:=hJ ho1.row
   clear ho1 hx1;have RS0:Hid (RS w1 w1.heap.size (w1.alloc (.cells #[.slice A1 body.length c1,.bool false] 175)) (body,false)):=hJ ⟨Nat.le_refl _,Ext.new _ _,hbl.out,A1,c1,BIs.new _ _ _,HB1.out,h11⟩
   go_wp2_with fail
   refine(qaU w1 w1.heap.size (body,false) _ RS0.out).mono ?_
   rintro en w2 ⟨rfl,hr2,hw2⟩
   rw[HA.out] at hr2⊢
   simp only at hr2
   have X12:Hid (Ext w1 w2):=hJ ((hw2.ext (Ext.new w1 _)) (Nat.le_refl _))
   have hp2:Hid (w1.heap.size<w2.heap.size):=hJ hr2.parts.choose_spec.choose_spec.2.2.2.2.2.2
   have R2:Hid (RS w1 w1.heap.size (w2.alloc (.cells #[Jq 11,Jq a,Jq 0,Jq 0,.string ⟨#[]⟩,Zq] 110)) r1):=hJ (hr2.ext (Ext.new _ _))
   have B2:Hid (BIs (w2.alloc (.cells #[Jq 11,Jq a,Jq 0,Jq 0,.string ⟨#[]⟩,Zq] 110)) w2.heap.size #[Jq 11,Jq a,Jq 0,Jq 0,.string ⟨#[]⟩,Zq] 110):=hJ (BIs.new _ _ _)
   have X2:Hid (Ext w1 (w2.alloc (.cells #[Jq 11,Jq a,Jq 0,Jq 0,.string ⟨#[]⟩,Zq] 110))):=hJ (X12.out.trans (Ext.new _ _))
   have hs2:Hid (w2.heap.size+1=(w2.alloc (.cells #[Jq 11,Jq a,Jq 0,Jq 0,.string ⟨#[]⟩,Zq] 110)).heap.size):=hJ (by simp)
   clear hr2 hw2;go_wp2_with fail
   generalize hW2:w2.alloc (.cells #[Jq 11,Jq a,Jq 0,Jq 0,.string ⟨#[]⟩,Zq] 110)=u0 at *
   clear hW2;refine(qaU w1 w1.heap.size r1 u0 R2.out).mono ?_
   rintro en u1 ⟨rfl,hr2,hw2⟩
   rw[HC0.out] at hr2⊢
   simp only at hr2
   have RC0:=hJ hr2
   have BC0:=hJ (hw2.bis B2.out (by have:=hp2.out;omega))
   have XC0:Hid (Ext w1 u1):=hJ (hw2.ext X2.out (Nat.le_refl _))
   have SC0:Hid (w2.heap.size<u1.heap.size):=hJ BC0.out.lt
   clear hr2 hw2;go_wp2_with fail
   refine(qgd w1 w1.heap.size r2 u1 RC0.out).mono ?_
   rintro en u2 ⟨rfl,hr2,hw2⟩
   rw[HC1.out] at hr2⊢
   simp only at hr2
   have RC1:=hJ hr2
   have BC1:=hJ (hw2.bis BC0.out (by have:=hp2.out;omega))
   have XC1:Hid (Ext w1 u2):=hJ (hw2.ext XC0.out (Nat.le_refl _))
   have SC1:Hid (w2.heap.size<u2.heap.size):=hJ BC1.out.lt
   clear hr2 hw2;obtain⟨q0,q1,q2,q3,q4,q5⟩:=six BC1.out
   obtain⟨v0,v1,v2,v3,v4,v5⟩:=qbb BC1.out
   have WF:Hid (Wrote w2.heap.size u2 ((u2.setCell (Pw w2 2) (Jq b)).setCell (Pw w2 4) (.string (qax pl)))):=hJ (((Wrote.refl _ _).trans (Wrote.set _ _ _ _)).trans (Wrote.set _ _ _ _))
   have BQ:Hid (BIs ((u2.setCell (Pw w2 2) (Jq b)).setCell (Pw w2 4) (.string (qax pl))) w2.heap.size #[Jq 11,Jq a,Jq b,Jq 0,.string (qax pl),Zq] 110):=hJ (((BC1.out).set 2 (Jq b)).set 4 (.string (qax pl)))
   have RP:Hid (RS w1 w1.heap.size ((u2.setCell (Pw w2 2) (Jq b)).setCell (Pw w2 4) (.string (qax pl))) rf):=hJ (RC1.out.wrote WF.out (by have:=hp2.out;omega) (by have:=hp2.out;omega))
   have XF:Hid (Ext (w.alloc (.cells #[Jq 0,Jq 0,Jq 0,Jq 0,.string ⟨#[]⟩,Zq] 110)) ((u2.setCell (Pw w2 2) (Jq b)).setCell (Pw w2 4) (.string (qax pl)))):=hJ (X1.out.trans (WF.out.ext XC1.out (by have:=hp2.out;omega)))
   go_wp2;clear WF q0 q1 q2 q3 q4 q5 v0 v1 v2 v3 v4 v5;generalize ((u2.setCell (Pw w2 2) (Jq b)).setCell (Pw w2 4) (.string (qax pl)))=wf at *
   clear z0 z1 z2 z3 z4 z5 y0 y1 y2 y3 y4 y5;obtain⟨Ab,cb,k0,k1,_,_,_,_,hpl⟩:=RP.out.parts
   obtain⟨q0,q1,q2,q3,q4,q5⟩:=six BQ.out
   obtain⟨z0,z1,z2,z3,z4,z5⟩:=qbb (BIs.ext (BIs.new w _ _) XF.out)
   obtain⟨y0,y1,y2,y3,y4,y5⟩:=six (BIs.ext (BIs.new w _ _) XF.out)
   have hne1:w2.heap.size≠w.heap.size:=by have:=hp2.out;have:=X1.out.size;simp at this;omega
   have hne2:w1.heap.size≠w.heap.size:=by have:=X1.out.size;simp at this;omega
   cases hff:rf.2 with
   | true=>
    rw[hff] at k1
    have HF:Hid (qa3 frame=none):=hJ (by rw[HRF.out,if_neg (by rw[hff];simp)])
    refine qac 16 (fun w'=>w'.cell? (Pw w2 0)=some (Jq 11)∧w'.cell? (Pw w2 1)=some (Jq a)∧w'.cell? (Pw w2 2)=some (Jq b)∧w'.cell? (Pw w2 3)=some (Jq 0)∧w'.cell? (Pw w2 4)=some (.string (qax pl))∧w'.cell? (Pw w2 5)=some Zq∧w'.cell? (Pw w1 0)=some (.slice Ab rf.1.length cb)∧w'.cell? (Pw w1 1)=some (.bool true)) (by kernel_rfl) ⟨q0,q1,q2,q3,q4,q5,k0,k1⟩ (fun hHeld=>?_)
    refine E_t 0 72 ?_;refine E_t 1 73 ?_;refine E_t 2 74 ?_;refine E_t 3 75 ?_;refine E_t 4 76 ?_;refine E_t 5 77 ?_;refine E_t 6 78 ?_;refine E_s 7 79 ?_;refine E_s 8 80 ?_;refine E_s 9 81 ?_;refine E_s 10 82 ?_;refine E_s 11 83 ?_;refine E_s 12 84 ?_;refine E_t 13 85 ?_;refine E_r 14 none fun K hK=>?_
    exact qqM
   | false=>
    rw[hff] at k1
    by_cases hz:rf.1.length=0
    ·have hzz:((rf.1.length:Int) == 0)=true:=by simp[hz]
     have HF:Hid (qa3 frame=some ⟨11,a,b,0,pl,[]⟩):=hJ (by rw[HRF.out,if_pos (by rw[hff];simpa using hz)])
     clear hz;refine qac 16 (fun w'=>w'.cell? (Pw w2 0)=some (Jq 11)∧w'.cell? (Pw w2 1)=some (Jq a)∧w'.cell? (Pw w2 2)=some (Jq b)∧w'.cell? (Pw w2 3)=some (Jq 0)∧w'.cell? (Pw w2 4)=some (.string (qax pl))∧w'.cell? (Pw w2 5)=some Zq∧w'.cell? (Pw w1 0)=some (.slice Ab rf.1.length cb)∧w'.cell? (Pw w1 1)=some (.bool false)) (by kernel_rfl) ⟨q0,q1,q2,q3,q4,q5,k0,k1⟩ (fun hHeld=>?_)
     refine E_t 0 72 ?_;refine E_t 1 73 ?_;refine E_t 2 74 ?_;refine E_t 3 75 ?_;refine E_t 4 76 ?_;refine E_t 5 77 ?_;refine E_t 6 78 ?_;refine E_t 7 79 ?_;refine E_t 8 80 ?_;refine E_t 9 81 ?_;refine E_t 10 82 ?_;refine E_t 11 83 ?_;refine E_t 12 84 ?_;refine E_t 13 85 ?_;refine E_r 14 none fun K hK=>?_
     go_simp;clear hHeld;refine hK.out _ _ ⟨(qaj hne1).trans q0,(qaj hne1).trans q1,(qaj hne1).trans q2,(qaj hne1).trans q3,(qaj hne1).trans q4,(qaj hne1).trans q5,(qaj hne2).trans k0,(qaj hne2).trans k1⟩ (fun hHeld=>?_)
     clear hK K;try simp only[Act.put,aP1,aP2,aP3]
     refine E_t 15 3 ?_;refine qaE (by kernel_rfl) (by rfl) ?_
     go_wp2;have BF:Hid (BIs ((((((wf.setCell (Pw w 0) (Jq 11)).setCell (Pw w 1) (Jq a)).setCell (Pw w 2) (Jq b)).setCell (Pw w 3) (Jq 0)).setCell (Pw w 4) (.string (qax pl))).setCell (Pw w 5) Zq).drew w.heap.size #[Jq 11,Jq a,Jq b,Jq 0,.string (qax pl),Zq] 110):=hJ ((qce (BIs.ext (BIs.new w _ _) XF.out)).ext Ext.drew1)
     have XFF:Hid (Ext w ((((((wf.setCell (Pw w 0) (Jq 11)).setCell (Pw w 1) (Jq a)).setCell (Pw w 2) (Jq b)).setCell (Pw w 3) (Jq 0)).setCell (Pw w 4) (.string (qax pl))).setCell (Pw w 5) Zq).drew):=hJ ((qcv (E0.out.trans XF.out)).trans Ext.drew1)
     generalize ((((((wf.setCell (Pw w 0) (Jq 11)).setCell (Pw w 1) (Jq a)).setCell (Pw w 2) (Jq b)).setCell (Pw w 3) (Jq 0)).setCell (Pw w 4) (.string (qax pl))).setCell (Pw w 5) Zq).drew=W at *
     obtain⟨g0,g1,g2,g3,g4,g5⟩:=six BF.out
     refine bodyPost_ret (v:=.tuple #[.agg #[Jq 11,Jq a,Jq b,Jq 0,.string (qax pl),Zq],.bool true]) (by simp[results,Tryz.results72,go_sem,g0,g1,g2,g3,g4,g5]) rfl ?_
     exact .inr ⟨⟨11,a,b,0,pl,[]⟩,none,0,rfl,HF.out,Nat.le_refl _,Nat.zero_le _,Elem.OB.nil _ _,XFF.out⟩
    ·have hzz:((rf.1.length:Int) == 0)=false:=by simp;exact fun e=>hz (by simp[e])
     have HF:Hid (qa3 frame=none):=hJ (by rw[HRF.out,if_neg (by rw[hff];simpa using hz)])
     clear hz;refine qac 16 (fun w'=>w'.cell? (Pw w2 0)=some (Jq 11)∧w'.cell? (Pw w2 1)=some (Jq a)∧w'.cell? (Pw w2 2)=some (Jq b)∧w'.cell? (Pw w2 3)=some (Jq 0)∧w'.cell? (Pw w2 4)=some (.string (qax pl))∧w'.cell? (Pw w2 5)=some Zq∧w'.cell? (Pw w1 0)=some (.slice Ab rf.1.length cb)∧w'.cell? (Pw w1 1)=some (.bool false)) (by kernel_rfl) ⟨q0,q1,q2,q3,q4,q5,k0,k1⟩ (fun hHeld=>?_)
     refine E_t 0 72 ?_;refine E_t 1 73 ?_;refine E_t 2 74 ?_;refine E_t 3 75 ?_;refine E_t 4 76 ?_;refine E_t 5 77 ?_;refine E_t 6 78 ?_;refine E_t 7 79 ?_;refine E_t 8 80 ?_;refine E_t 9 81 ?_;refine E_t 10 82 ?_;refine E_t 11 83 ?_;refine E_t 12 84 ?_;refine E_t 13 85 ?_;refine E_r 14 none fun K hK=>?_
     exact qqM
  ·have hkk11:(kind == 11)=false:=by simpa using hk11
   by_cases hk12:kind=12
   ·subst hk12
    obtain⟨⟨a,r1⟩,ha⟩:∃d,qdr (body,false)=d:=⟨_,rfl⟩
    have HA:=hJ ha
    obtain⟨⟨b,r2⟩,hc0⟩:∃d,qdr r1=d:=⟨_,rfl⟩
    have HC0:=hJ hc0
    obtain⟨⟨st,r3⟩,hc1⟩:∃d,qdr r2=d:=⟨_,rfl⟩
    have HC1:=hJ hc1
    obtain⟨⟨es,rf⟩,hc2⟩:∃d,qcT r3=d:=⟨_,rfl⟩
    have HC2:=hJ hc2
    have HRF:Hid (qa3 frame=if rf.2=false∧rf.1.length=0 then some ⟨12,a,b,st,[],es⟩ else none):=hJ (by unfold qa3;rw[HOP.out];simp only;rw[if_neg hbad];unfold qec;simp only[ha,hc0,hc1,hc2,if_true,if_false,Int.reduceEq])
    clear hbad ha hc0 hc1 hc2;go_enter Tryz.func72,Tryz.ntmps72
    go_wp2_with fail
    refine(qc7 A c frame _ H0.out hc hl).mono ?_
    rintro en w1 ⟨A1,c1,rfl,h11,h12,ho1,hx1⟩
    have X1:=hJ hx1
    obtain⟨z0,z1,z2,z3,z4,z5⟩:=qbb (BIs.ext (BIs.new w _ _) hx1)
    obtain⟨y0,y1,y2,y3,y4,y5⟩:=six (BIs.ext (BIs.new w _ _) hx1)
    rw[HOP.out] at ho1 h11⊢
    simp only at ho1 h11
    have HB1:=hJ ho1.row
    clear ho1 hx1;have RS0:Hid (RS w1 w1.heap.size (w1.alloc (.cells #[.slice A1 body.length c1,.bool false] 175)) (body,false)):=hJ ⟨Nat.le_refl _,Ext.new _ _,hbl.out,A1,c1,BIs.new _ _ _,HB1.out,h11⟩
    go_wp2_with fail
    refine(qaU w1 w1.heap.size (body,false) _ RS0.out).mono ?_
    rintro en w2 ⟨rfl,hr2,hw2⟩
    rw[HA.out] at hr2⊢
    simp only at hr2
    have X12:Hid (Ext w1 w2):=hJ ((hw2.ext (Ext.new w1 _)) (Nat.le_refl _))
    have hp2:Hid (w1.heap.size<w2.heap.size):=hJ hr2.parts.choose_spec.choose_spec.2.2.2.2.2.2
    have R2:Hid (RS w1 w1.heap.size (w2.alloc (.cells #[Jq 12,Jq a,Jq 0,Jq 0,.string ⟨#[]⟩,Zq] 110)) r1):=hJ (hr2.ext (Ext.new _ _))
    have B2:Hid (BIs (w2.alloc (.cells #[Jq 12,Jq a,Jq 0,Jq 0,.string ⟨#[]⟩,Zq] 110)) w2.heap.size #[Jq 12,Jq a,Jq 0,Jq 0,.string ⟨#[]⟩,Zq] 110):=hJ (BIs.new _ _ _)
    have X2:Hid (Ext w1 (w2.alloc (.cells #[Jq 12,Jq a,Jq 0,Jq 0,.string ⟨#[]⟩,Zq] 110))):=hJ (X12.out.trans (Ext.new _ _))
    have hs2:Hid (w2.heap.size+1=(w2.alloc (.cells #[Jq 12,Jq a,Jq 0,Jq 0,.string ⟨#[]⟩,Zq] 110)).heap.size):=hJ (by simp)
    clear hr2 hw2;go_wp2_with fail
    generalize hW2:w2.alloc (.cells #[Jq 12,Jq a,Jq 0,Jq 0,.string ⟨#[]⟩,Zq] 110)=u0 at *
    clear hW2;refine(qaU w1 w1.heap.size r1 u0 R2.out).mono ?_
    rintro en u1 ⟨rfl,hr2,hw2⟩
    rw[HC0.out] at hr2⊢
    simp only at hr2
    have RC0:=hJ hr2
    have BC0:=hJ (hw2.bis B2.out (by have:=hp2.out;omega))
    have XC0:Hid (Ext w1 u1):=hJ (hw2.ext X2.out (Nat.le_refl _))
    have SC0:Hid (w2.heap.size<u1.heap.size):=hJ BC0.out.lt
    clear hr2 hw2;go_wp2_with fail
    refine(qaU w1 w1.heap.size r2 u1 RC0.out).mono ?_
    rintro en u2 ⟨rfl,hr2,hw2⟩
    rw[HC1.out] at hr2⊢
    simp only at hr2
    have RC1:=hJ hr2
    have BC1:=hJ (hw2.bis BC0.out (by have:=hp2.out;omega))
    have XC1:Hid (Ext w1 u2):=hJ (hw2.ext XC0.out (Nat.le_refl _))
    have SC1:Hid (w2.heap.size<u2.heap.size):=hJ BC1.out.lt
    clear hr2 hw2;go_wp2_with fail
    refine(qeb w1 w1.heap.size r3 u2 RC1.out).mono ?_
    rintro en u3 ⟨Ae,ce,rfl,he1,he2,hob,hr2,hw2⟩
    rw[HC2.out] at he1 hob hr2⊢
    simp only at he1 hob hr2
    have HOB:=hJ hob
    clear hob;have RC2:=hJ hr2
    have BC2:=hJ (hw2.bis BC1.out (by have:=hp2.out;omega))
    have XC2:Hid (Ext w1 u3):=hJ (hw2.ext XC1.out (Nat.le_refl _))
    have SC2:Hid (w2.heap.size<u3.heap.size):=hJ BC2.out.lt
    have hoq:Hid (∀k,(Value.slice Ae es.length ce).ownBlock=some k→k≠w2.heap.size):=hJ (fun k hk=>by have:=(HOB.out.1.lt k hk).1;have:=SC1.out;omega)
    clear hr2 hw2;obtain⟨q0,q1,q2,q3,q4,q5⟩:=six BC2.out
    obtain⟨v0,v1,v2,v3,v4,v5⟩:=qbb BC2.out
    have WF:Hid (Wrote w2.heap.size u3 (((u3.setCell (Pw w2 2) (Jq b)).setCell (Pw w2 3) (Jq st)).setCell (Pw w2 5) (.slice Ae es.length ce))):=hJ ((((Wrote.refl _ _).trans (Wrote.set _ _ _ _)).trans (Wrote.set _ _ _ _)).trans (Wrote.set _ _ _ _))
    have BQ:Hid (BIs (((u3.setCell (Pw w2 2) (Jq b)).setCell (Pw w2 3) (Jq st)).setCell (Pw w2 5) (.slice Ae es.length ce)) w2.heap.size #[Jq 12,Jq a,Jq b,Jq st,.string ⟨#[]⟩,.slice Ae es.length ce] 110):=hJ ((((BC2.out).set 2 (Jq b)).set 3 (Jq st)).set 5 (.slice Ae es.length ce))
    have RP:Hid (RS w1 w1.heap.size (((u3.setCell (Pw w2 2) (Jq b)).setCell (Pw w2 3) (Jq st)).setCell (Pw w2 5) (.slice Ae es.length ce)) rf):=hJ (RC2.out.wrote WF.out (by have:=hp2.out;omega) (by have:=hp2.out;omega))
    have XF:Hid (Ext (w.alloc (.cells #[Jq 0,Jq 0,Jq 0,Jq 0,.string ⟨#[]⟩,Zq] 110)) (((u3.setCell (Pw w2 2) (Jq b)).setCell (Pw w2 3) (Jq st)).setCell (Pw w2 5) (.slice Ae es.length ce))):=hJ (X1.out.trans (WF.out.ext XC2.out (by have:=hp2.out;omega)))
    have HOQ:Hid (qaz.OB (((u3.setCell (Pw w2 2) (Jq b)).setCell (Pw w2 3) (Jq st)).setCell (Pw w2 5) (.slice Ae es.length ce)) w.heap.size (.slice Ae es.length ce) es):=hJ ((WF.out.ob HOB.out hoq.out).baseOB (by have:=X1.out.size;have:=XC1.out.size;have:=hs2.out;simp at *;omega))
    have hor:Hid (∀k,(Value.slice Ae es.length ce).ownBlock=some k→k≠w.heap.size):=hJ (fun k hk=>by have:=(HOB.out.1.lt k hk).1;have:=X1.out.size;have:=hp2.out;have:=SC1.out;simp at *;omega)
    go_wp2;clear WF q0 q1 q2 q3 q4 q5 v0 v1 v2 v3 v4 v5;generalize (((u3.setCell (Pw w2 2) (Jq b)).setCell (Pw w2 3) (Jq st)).setCell (Pw w2 5) (.slice Ae es.length ce))=wf at *
    clear z0 z1 z2 z3 z4 z5 y0 y1 y2 y3 y4 y5;obtain⟨Ab,cb,k0,k1,_,_,_,_,hpl⟩:=RP.out.parts
    obtain⟨q0,q1,q2,q3,q4,q5⟩:=six BQ.out
    obtain⟨z0,z1,z2,z3,z4,z5⟩:=qbb (BIs.ext (BIs.new w _ _) XF.out)
    obtain⟨y0,y1,y2,y3,y4,y5⟩:=six (BIs.ext (BIs.new w _ _) XF.out)
    have hne1:w2.heap.size≠w.heap.size:=by have:=hp2.out;have:=X1.out.size;simp at this;omega
    have hne2:w1.heap.size≠w.heap.size:=by have:=X1.out.size;simp at this;omega
    cases hff:rf.2 with
    | true=>
     rw[hff] at k1
     have HF:Hid (qa3 frame=none):=hJ (by rw[HRF.out,if_neg (by rw[hff];simp)])
     refine qac 16 (fun w'=>w'.cell? (Pw w2 0)=some (Jq 12)∧w'.cell? (Pw w2 1)=some (Jq a)∧w'.cell? (Pw w2 2)=some (Jq b)∧w'.cell? (Pw w2 3)=some (Jq st)∧w'.cell? (Pw w2 4)=some (.string ⟨#[]⟩)∧w'.cell? (Pw w2 5)=some (.slice Ae es.length ce)∧w'.cell? (Pw w1 0)=some (.slice Ab rf.1.length cb)∧w'.cell? (Pw w1 1)=some (.bool true)) (by kernel_rfl) ⟨q0,q1,q2,q3,q4,q5,k0,k1⟩ (fun hHeld=>?_)
     refine E_t 0 72 ?_;refine E_t 1 73 ?_;refine E_t 2 74 ?_;refine E_t 3 75 ?_;refine E_t 4 76 ?_;refine E_t 5 77 ?_;refine E_t 6 78 ?_;refine E_s 7 79 ?_;refine E_s 8 80 ?_;refine E_s 9 81 ?_;refine E_s 10 82 ?_;refine E_s 11 83 ?_;refine E_s 12 84 ?_;refine E_t 13 85 ?_;refine E_r 14 none fun K hK=>?_
     exact qqm
    | false=>
     rw[hff] at k1
     by_cases hz:rf.1.length=0
     ·have hzz:((rf.1.length:Int) == 0)=true:=by simp[hz]
      have HF:Hid (qa3 frame=some ⟨12,a,b,st,[],es⟩):=hJ (by rw[HRF.out,if_pos (by rw[hff];simpa using hz)])
      clear hz;refine qac 16 (fun w'=>w'.cell? (Pw w2 0)=some (Jq 12)∧w'.cell? (Pw w2 1)=some (Jq a)∧w'.cell? (Pw w2 2)=some (Jq b)∧w'.cell? (Pw w2 3)=some (Jq st)∧w'.cell? (Pw w2 4)=some (.string ⟨#[]⟩)∧w'.cell? (Pw w2 5)=some (.slice Ae es.length ce)∧w'.cell? (Pw w1 0)=some (.slice Ab rf.1.length cb)∧w'.cell? (Pw w1 1)=some (.bool false)) (by kernel_rfl) ⟨q0,q1,q2,q3,q4,q5,k0,k1⟩ (fun hHeld=>?_)
      refine E_t 0 72 ?_;refine E_t 1 73 ?_;refine E_t 2 74 ?_;refine E_t 3 75 ?_;refine E_t 4 76 ?_;refine E_t 5 77 ?_;refine E_t 6 78 ?_;refine E_t 7 79 ?_;refine E_t 8 80 ?_;refine E_t 9 81 ?_;refine E_t 10 82 ?_;refine E_t 11 83 ?_;refine E_t 12 84 ?_;refine E_t 13 85 ?_;refine E_r 14 none fun K hK=>?_
      go_simp;clear hHeld;refine hK.out _ _ ⟨(qaj hne1).trans q0,(qaj hne1).trans q1,(qaj hne1).trans q2,(qaj hne1).trans q3,(qaj hne1).trans q4,(qaj hne1).trans q5,(qaj hne2).trans k0,(qaj hne2).trans k1⟩ (fun hHeld=>?_)
      clear hK K;try simp only[Act.put,aP1,aP2,aP3]
      refine E_t 15 3 ?_;refine qaE (by kernel_rfl) (by rfl) ?_
      go_wp2;have BF:Hid (BIs ((((((wf.setCell (Pw w 0) (Jq 12)).setCell (Pw w 1) (Jq a)).setCell (Pw w 2) (Jq b)).setCell (Pw w 3) (Jq st)).setCell (Pw w 4) (.string ⟨#[]⟩)).setCell (Pw w 5) (.slice Ae es.length ce)).drew w.heap.size #[Jq 12,Jq a,Jq b,Jq st,.string ⟨#[]⟩,.slice Ae es.length ce] 110):=hJ ((qce (BIs.ext (BIs.new w _ _) XF.out)).ext Ext.drew1)
      have XFF:Hid (Ext w ((((((wf.setCell (Pw w 0) (Jq 12)).setCell (Pw w 1) (Jq a)).setCell (Pw w 2) (Jq b)).setCell (Pw w 3) (Jq st)).setCell (Pw w 4) (.string ⟨#[]⟩)).setCell (Pw w 5) (.slice Ae es.length ce)).drew):=hJ ((qcv (E0.out.trans XF.out)).trans Ext.drew1)
      have HOF:Hid (qaz.OB ((((((wf.setCell (Pw w 0) (Jq 12)).setCell (Pw w 1) (Jq a)).setCell (Pw w 2) (Jq b)).setCell (Pw w 3) (Jq st)).setCell (Pw w 4) (.string ⟨#[]⟩)).setCell (Pw w 5) (.slice Ae es.length ce)).drew w.heap.size (.slice Ae es.length ce) es):=hJ ((qnI HOQ.out hor.out).ext Ext.drew1)
      generalize ((((((wf.setCell (Pw w 0) (Jq 12)).setCell (Pw w 1) (Jq a)).setCell (Pw w 2) (Jq b)).setCell (Pw w 3) (Jq st)).setCell (Pw w 4) (.string ⟨#[]⟩)).setCell (Pw w 5) (.slice Ae es.length ce)).drew=W at *
      obtain⟨g0,g1,g2,g3,g4,g5⟩:=six BF.out
      refine bodyPost_ret (v:=.tuple #[.agg #[Jq 12,Jq a,Jq b,Jq st,.string ⟨#[]⟩,.slice Ae es.length ce],.bool true]) (by simp[results,Tryz.results72,go_sem,g0,g1,g2,g3,g4,g5]) rfl ?_
      exact .inr ⟨⟨12,a,b,st,[],es⟩,Ae,ce,rfl,HF.out,he1,he2,HOF.out,XFF.out⟩
     ·have hzz:((rf.1.length:Int) == 0)=false:=by simp;exact fun e=>hz (by simp[e])
      have HF:Hid (qa3 frame=none):=hJ (by rw[HRF.out,if_neg (by rw[hff];simpa using hz)])
      clear hz;refine qac 16 (fun w'=>w'.cell? (Pw w2 0)=some (Jq 12)∧w'.cell? (Pw w2 1)=some (Jq a)∧w'.cell? (Pw w2 2)=some (Jq b)∧w'.cell? (Pw w2 3)=some (Jq st)∧w'.cell? (Pw w2 4)=some (.string ⟨#[]⟩)∧w'.cell? (Pw w2 5)=some (.slice Ae es.length ce)∧w'.cell? (Pw w1 0)=some (.slice Ab rf.1.length cb)∧w'.cell? (Pw w1 1)=some (.bool false)) (by kernel_rfl) ⟨q0,q1,q2,q3,q4,q5,k0,k1⟩ (fun hHeld=>?_)
      refine E_t 0 72 ?_;refine E_t 1 73 ?_;refine E_t 2 74 ?_;refine E_t 3 75 ?_;refine E_t 4 76 ?_;refine E_t 5 77 ?_;refine E_t 6 78 ?_;refine E_t 7 79 ?_;refine E_t 8 80 ?_;refine E_t 9 81 ?_;refine E_t 10 82 ?_;refine E_t 11 83 ?_;refine E_t 12 84 ?_;refine E_t 13 85 ?_;refine E_r 14 none fun K hK=>?_
      exact qqm
   ·have hkk12:(kind == 12)=false:=by simpa using hk12
    by_cases hk13:kind=13
    ·subst hk13
     obtain⟨⟨a,r1⟩,ha⟩:∃d,qdr (body,false)=d:=⟨_,rfl⟩
     have HA:=hJ ha
     obtain⟨⟨b,rf⟩,hc0⟩:∃d,qdr r1=d:=⟨_,rfl⟩
     have HC0:=hJ hc0
     have HRF:Hid (qa3 frame=if rf.2=false∧rf.1.length=0 then some ⟨13,a,b,0,[],[]⟩ else none):=hJ (by unfold qa3;rw[HOP.out];simp only;rw[if_neg hbad];unfold qec;simp only[ha,hc0,if_true,if_false,Int.reduceEq])
     clear hbad ha hc0;go_enter Tryz.func72,Tryz.ntmps72
     go_wp2_with fail
     refine(qc7 A c frame _ H0.out hc hl).mono ?_
     rintro en w1 ⟨A1,c1,rfl,h11,h12,ho1,hx1⟩
     have X1:=hJ hx1
     obtain⟨z0,z1,z2,z3,z4,z5⟩:=qbb (BIs.ext (BIs.new w _ _) hx1)
     obtain⟨y0,y1,y2,y3,y4,y5⟩:=six (BIs.ext (BIs.new w _ _) hx1)
     rw[HOP.out] at ho1 h11⊢
     simp only at ho1 h11
     have HB1:=hJ ho1.row
     clear ho1 hx1;have RS0:Hid (RS w1 w1.heap.size (w1.alloc (.cells #[.slice A1 body.length c1,.bool false] 175)) (body,false)):=hJ ⟨Nat.le_refl _,Ext.new _ _,hbl.out,A1,c1,BIs.new _ _ _,HB1.out,h11⟩
     go_wp2_with fail
     refine(qaU w1 w1.heap.size (body,false) _ RS0.out).mono ?_
     rintro en w2 ⟨rfl,hr2,hw2⟩
     rw[HA.out] at hr2⊢
     simp only at hr2
     have X12:Hid (Ext w1 w2):=hJ ((hw2.ext (Ext.new w1 _)) (Nat.le_refl _))
     have hp2:Hid (w1.heap.size<w2.heap.size):=hJ hr2.parts.choose_spec.choose_spec.2.2.2.2.2.2
     have R2:Hid (RS w1 w1.heap.size (w2.alloc (.cells #[Jq 13,Jq a,Jq 0,Jq 0,.string ⟨#[]⟩,Zq] 110)) r1):=hJ (hr2.ext (Ext.new _ _))
     have B2:Hid (BIs (w2.alloc (.cells #[Jq 13,Jq a,Jq 0,Jq 0,.string ⟨#[]⟩,Zq] 110)) w2.heap.size #[Jq 13,Jq a,Jq 0,Jq 0,.string ⟨#[]⟩,Zq] 110):=hJ (BIs.new _ _ _)
     have X2:Hid (Ext w1 (w2.alloc (.cells #[Jq 13,Jq a,Jq 0,Jq 0,.string ⟨#[]⟩,Zq] 110))):=hJ (X12.out.trans (Ext.new _ _))
     have hs2:Hid (w2.heap.size+1=(w2.alloc (.cells #[Jq 13,Jq a,Jq 0,Jq 0,.string ⟨#[]⟩,Zq] 110)).heap.size):=hJ (by simp)
     clear hr2 hw2;go_wp2_with fail
     generalize hW2:w2.alloc (.cells #[Jq 13,Jq a,Jq 0,Jq 0,.string ⟨#[]⟩,Zq] 110)=u0 at *
     clear hW2;refine(qaU w1 w1.heap.size r1 u0 R2.out).mono ?_
     rintro en u1 ⟨rfl,hr2,hw2⟩
     rw[HC0.out] at hr2⊢
     simp only at hr2
     have RC0:=hJ hr2
     have BC0:=hJ (hw2.bis B2.out (by have:=hp2.out;omega))
     have XC0:Hid (Ext w1 u1):=hJ (hw2.ext X2.out (Nat.le_refl _))
     have SC0:Hid (w2.heap.size<u1.heap.size):=hJ BC0.out.lt
     clear hr2 hw2;obtain⟨q0,q1,q2,q3,q4,q5⟩:=six BC0.out
     obtain⟨v0,v1,v2,v3,v4,v5⟩:=qbb BC0.out
     have WF:Hid (Wrote w2.heap.size u1 (u1.setCell (Pw w2 2) (Jq b))):=hJ ((Wrote.refl _ _).trans (Wrote.set _ _ _ _))
     have BQ:Hid (BIs (u1.setCell (Pw w2 2) (Jq b)) w2.heap.size #[Jq 13,Jq a,Jq b,Jq 0,.string ⟨#[]⟩,Zq] 110):=hJ ((BC0.out).set 2 (Jq b))
     have RP:Hid (RS w1 w1.heap.size (u1.setCell (Pw w2 2) (Jq b)) rf):=hJ (RC0.out.wrote WF.out (by have:=hp2.out;omega) (by have:=hp2.out;omega))
     have XF:Hid (Ext (w.alloc (.cells #[Jq 0,Jq 0,Jq 0,Jq 0,.string ⟨#[]⟩,Zq] 110)) (u1.setCell (Pw w2 2) (Jq b))):=hJ (X1.out.trans (WF.out.ext XC0.out (by have:=hp2.out;omega)))
     go_wp2;clear WF q0 q1 q2 q3 q4 q5 v0 v1 v2 v3 v4 v5;generalize (u1.setCell (Pw w2 2) (Jq b))=wf at *
     clear z0 z1 z2 z3 z4 z5 y0 y1 y2 y3 y4 y5;obtain⟨Ab,cb,k0,k1,_,_,_,_,hpl⟩:=RP.out.parts
     obtain⟨q0,q1,q2,q3,q4,q5⟩:=six BQ.out
     obtain⟨z0,z1,z2,z3,z4,z5⟩:=qbb (BIs.ext (BIs.new w _ _) XF.out)
     obtain⟨y0,y1,y2,y3,y4,y5⟩:=six (BIs.ext (BIs.new w _ _) XF.out)
     have hne1:w2.heap.size≠w.heap.size:=by have:=hp2.out;have:=X1.out.size;simp at this;omega
     have hne2:w1.heap.size≠w.heap.size:=by have:=X1.out.size;simp at this;omega
     cases hff:rf.2 with
     | true=>
      rw[hff] at k1
      have HF:Hid (qa3 frame=none):=hJ (by rw[HRF.out,if_neg (by rw[hff];simp)])
      refine qac 16 (fun w'=>w'.cell? (Pw w2 0)=some (Jq 13)∧w'.cell? (Pw w2 1)=some (Jq a)∧w'.cell? (Pw w2 2)=some (Jq b)∧w'.cell? (Pw w2 3)=some (Jq 0)∧w'.cell? (Pw w2 4)=some (.string ⟨#[]⟩)∧w'.cell? (Pw w2 5)=some Zq∧w'.cell? (Pw w1 0)=some (.slice Ab rf.1.length cb)∧w'.cell? (Pw w1 1)=some (.bool true)) (by kernel_rfl) ⟨q0,q1,q2,q3,q4,q5,k0,k1⟩ (fun hHeld=>?_)
      refine E_t 0 72 ?_;refine E_t 1 73 ?_;refine E_t 2 74 ?_;refine E_t 3 75 ?_;refine E_t 4 76 ?_;refine E_t 5 77 ?_;refine E_t 6 78 ?_;refine E_s 7 79 ?_;refine E_s 8 80 ?_;refine E_s 9 81 ?_;refine E_s 10 82 ?_;refine E_s 11 83 ?_;refine E_s 12 84 ?_;refine E_t 13 85 ?_;refine E_r 14 none fun K hK=>?_
      exact qqw
     | false=>
      rw[hff] at k1
      by_cases hz:rf.1.length=0
      ·have hzz:((rf.1.length:Int) == 0)=true:=by simp[hz]
       have HF:Hid (qa3 frame=some ⟨13,a,b,0,[],[]⟩):=hJ (by rw[HRF.out,if_pos (by rw[hff];simpa using hz)])
       clear hz;refine qac 16 (fun w'=>w'.cell? (Pw w2 0)=some (Jq 13)∧w'.cell? (Pw w2 1)=some (Jq a)∧w'.cell? (Pw w2 2)=some (Jq b)∧w'.cell? (Pw w2 3)=some (Jq 0)∧w'.cell? (Pw w2 4)=some (.string ⟨#[]⟩)∧w'.cell? (Pw w2 5)=some Zq∧w'.cell? (Pw w1 0)=some (.slice Ab rf.1.length cb)∧w'.cell? (Pw w1 1)=some (.bool false)) (by kernel_rfl) ⟨q0,q1,q2,q3,q4,q5,k0,k1⟩ (fun hHeld=>?_)
       refine E_t 0 72 ?_;refine E_t 1 73 ?_;refine E_t 2 74 ?_;refine E_t 3 75 ?_;refine E_t 4 76 ?_;refine E_t 5 77 ?_;refine E_t 6 78 ?_;refine E_t 7 79 ?_;refine E_t 8 80 ?_;refine E_t 9 81 ?_;refine E_t 10 82 ?_;refine E_t 11 83 ?_;refine E_t 12 84 ?_;refine E_t 13 85 ?_;refine E_r 14 none fun K hK=>?_
       go_simp;clear hHeld;refine hK.out _ _ ⟨(qaj hne1).trans q0,(qaj hne1).trans q1,(qaj hne1).trans q2,(qaj hne1).trans q3,(qaj hne1).trans q4,(qaj hne1).trans q5,(qaj hne2).trans k0,(qaj hne2).trans k1⟩ (fun hHeld=>?_)
       clear hK K;try simp only[Act.put,aP1,aP2,aP3]
       refine E_t 15 3 ?_;refine qaE (by kernel_rfl) (by rfl) ?_
       go_wp2;have BF:Hid (BIs ((((((wf.setCell (Pw w 0) (Jq 13)).setCell (Pw w 1) (Jq a)).setCell (Pw w 2) (Jq b)).setCell (Pw w 3) (Jq 0)).setCell (Pw w 4) (.string ⟨#[]⟩)).setCell (Pw w 5) Zq).drew w.heap.size #[Jq 13,Jq a,Jq b,Jq 0,.string ⟨#[]⟩,Zq] 110):=hJ ((qce (BIs.ext (BIs.new w _ _) XF.out)).ext Ext.drew1)
       have XFF:Hid (Ext w ((((((wf.setCell (Pw w 0) (Jq 13)).setCell (Pw w 1) (Jq a)).setCell (Pw w 2) (Jq b)).setCell (Pw w 3) (Jq 0)).setCell (Pw w 4) (.string ⟨#[]⟩)).setCell (Pw w 5) Zq).drew):=hJ ((qcv (E0.out.trans XF.out)).trans Ext.drew1)
       generalize ((((((wf.setCell (Pw w 0) (Jq 13)).setCell (Pw w 1) (Jq a)).setCell (Pw w 2) (Jq b)).setCell (Pw w 3) (Jq 0)).setCell (Pw w 4) (.string ⟨#[]⟩)).setCell (Pw w 5) Zq).drew=W at *
       obtain⟨g0,g1,g2,g3,g4,g5⟩:=six BF.out
       refine bodyPost_ret (v:=.tuple #[.agg #[Jq 13,Jq a,Jq b,Jq 0,.string ⟨#[]⟩,Zq],.bool true]) (by simp[results,Tryz.results72,go_sem,g0,g1,g2,g3,g4,g5]) rfl ?_
       exact .inr ⟨⟨13,a,b,0,[],[]⟩,none,0,rfl,HF.out,Nat.le_refl _,Nat.zero_le _,Elem.OB.nil _ _,XFF.out⟩
      ·have hzz:((rf.1.length:Int) == 0)=false:=by simp;exact fun e=>hz (by simp[e])
       have HF:Hid (qa3 frame=none):=hJ (by rw[HRF.out,if_neg (by rw[hff];simpa using hz)])
       clear hz;refine qac 16 (fun w'=>w'.cell? (Pw w2 0)=some (Jq 13)∧w'.cell? (Pw w2 1)=some (Jq a)∧w'.cell? (Pw w2 2)=some (Jq b)∧w'.cell? (Pw w2 3)=some (Jq 0)∧w'.cell? (Pw w2 4)=some (.string ⟨#[]⟩)∧w'.cell? (Pw w2 5)=some Zq∧w'.cell? (Pw w1 0)=some (.slice Ab rf.1.length cb)∧w'.cell? (Pw w1 1)=some (.bool false)) (by kernel_rfl) ⟨q0,q1,q2,q3,q4,q5,k0,k1⟩ (fun hHeld=>?_)
       refine E_t 0 72 ?_;refine E_t 1 73 ?_;refine E_t 2 74 ?_;refine E_t 3 75 ?_;refine E_t 4 76 ?_;refine E_t 5 77 ?_;refine E_t 6 78 ?_;refine E_t 7 79 ?_;refine E_t 8 80 ?_;refine E_t 9 81 ?_;refine E_t 10 82 ?_;refine E_t 11 83 ?_;refine E_t 12 84 ?_;refine E_t 13 85 ?_;refine E_r 14 none fun K hK=>?_
       exact qqw
    ·have hkk13:(kind == 13)=false:=by simpa using hk13
     by_cases hk14:kind=14
     ·subst hk14
      obtain⟨⟨a,r1⟩,ha⟩:∃d,qdr (body,false)=d:=⟨_,rfl⟩
      have HA:=hJ ha
      obtain⟨⟨b,r2⟩,hc0⟩:∃d,qhn r1=d:=⟨_,rfl⟩
      have HC0:=hJ hc0
      obtain⟨⟨es,rf⟩,hc1⟩:∃d,qcT r2=d:=⟨_,rfl⟩
      have HC1:=hJ hc1
      have HRF:Hid (qa3 frame=if rf.2=false∧rf.1.length=0 then some ⟨14,a,b,0,[],es⟩ else none):=hJ (by unfold qa3;rw[HOP.out];simp only;rw[if_neg hbad];unfold qec;simp only[ha,hc0,hc1,if_true,if_false,Int.reduceEq])
      clear hbad ha hc0 hc1;go_enter Tryz.func72,Tryz.ntmps72
      go_wp2_with fail
      refine(qc7 A c frame _ H0.out hc hl).mono ?_
      rintro en w1 ⟨A1,c1,rfl,h11,h12,ho1,hx1⟩
      have X1:=hJ hx1
      obtain⟨z0,z1,z2,z3,z4,z5⟩:=qbb (BIs.ext (BIs.new w _ _) hx1)
      obtain⟨y0,y1,y2,y3,y4,y5⟩:=six (BIs.ext (BIs.new w _ _) hx1)
      rw[HOP.out] at ho1 h11⊢
      simp only at ho1 h11
      have HB1:=hJ ho1.row
      clear ho1 hx1;have RS0:Hid (RS w1 w1.heap.size (w1.alloc (.cells #[.slice A1 body.length c1,.bool false] 175)) (body,false)):=hJ ⟨Nat.le_refl _,Ext.new _ _,hbl.out,A1,c1,BIs.new _ _ _,HB1.out,h11⟩
      go_wp2_with fail
      refine(qaU w1 w1.heap.size (body,false) _ RS0.out).mono ?_
      rintro en w2 ⟨rfl,hr2,hw2⟩
      rw[HA.out] at hr2⊢
      simp only at hr2
      have X12:Hid (Ext w1 w2):=hJ ((hw2.ext (Ext.new w1 _)) (Nat.le_refl _))
      have hp2:Hid (w1.heap.size<w2.heap.size):=hJ hr2.parts.choose_spec.choose_spec.2.2.2.2.2.2
      have R2:Hid (RS w1 w1.heap.size (w2.alloc (.cells #[Jq 14,Jq a,Jq 0,Jq 0,.string ⟨#[]⟩,Zq] 110)) r1):=hJ (hr2.ext (Ext.new _ _))
      have B2:Hid (BIs (w2.alloc (.cells #[Jq 14,Jq a,Jq 0,Jq 0,.string ⟨#[]⟩,Zq] 110)) w2.heap.size #[Jq 14,Jq a,Jq 0,Jq 0,.string ⟨#[]⟩,Zq] 110):=hJ (BIs.new _ _ _)
      have X2:Hid (Ext w1 (w2.alloc (.cells #[Jq 14,Jq a,Jq 0,Jq 0,.string ⟨#[]⟩,Zq] 110))):=hJ (X12.out.trans (Ext.new _ _))
      have hs2:Hid (w2.heap.size+1=(w2.alloc (.cells #[Jq 14,Jq a,Jq 0,Jq 0,.string ⟨#[]⟩,Zq] 110)).heap.size):=hJ (by simp)
      clear hr2 hw2;go_wp2_with fail
      generalize hW2:w2.alloc (.cells #[Jq 14,Jq a,Jq 0,Jq 0,.string ⟨#[]⟩,Zq] 110)=u0 at *
      clear hW2;refine(qnL w1 w1.heap.size r1 u0 R2.out).mono ?_
      rintro en u1 ⟨rfl,hr2,hw2⟩
      rw[HC0.out] at hr2⊢
      simp only at hr2
      have RC0:=hJ hr2
      have BC0:=hJ (hw2.bis B2.out (by have:=hp2.out;omega))
      have XC0:Hid (Ext w1 u1):=hJ (hw2.ext X2.out (Nat.le_refl _))
      have SC0:Hid (w2.heap.size<u1.heap.size):=hJ BC0.out.lt
      clear hr2 hw2;go_wp2_with fail
      refine(qeb w1 w1.heap.size r2 u1 RC0.out).mono ?_
      rintro en u2 ⟨Ae,ce,rfl,he1,he2,hob,hr2,hw2⟩
      rw[HC1.out] at he1 hob hr2⊢
      simp only at he1 hob hr2
      have HOB:=hJ hob
      clear hob;have RC1:=hJ hr2
      have BC1:=hJ (hw2.bis BC0.out (by have:=hp2.out;omega))
      have XC1:Hid (Ext w1 u2):=hJ (hw2.ext XC0.out (Nat.le_refl _))
      have SC1:Hid (w2.heap.size<u2.heap.size):=hJ BC1.out.lt
      have hoq:Hid (∀k,(Value.slice Ae es.length ce).ownBlock=some k→k≠w2.heap.size):=hJ (fun k hk=>by have:=(HOB.out.1.lt k hk).1;have:=SC0.out;omega)
      clear hr2 hw2;obtain⟨q0,q1,q2,q3,q4,q5⟩:=six BC1.out
      obtain⟨v0,v1,v2,v3,v4,v5⟩:=qbb BC1.out
      have WF:Hid (Wrote w2.heap.size u2 ((u2.setCell (Pw w2 2) (Jq b)).setCell (Pw w2 5) (.slice Ae es.length ce))):=hJ (((Wrote.refl _ _).trans (Wrote.set _ _ _ _)).trans (Wrote.set _ _ _ _))
      have BQ:Hid (BIs ((u2.setCell (Pw w2 2) (Jq b)).setCell (Pw w2 5) (.slice Ae es.length ce)) w2.heap.size #[Jq 14,Jq a,Jq b,Jq 0,.string ⟨#[]⟩,.slice Ae es.length ce] 110):=hJ (((BC1.out).set 2 (Jq b)).set 5 (.slice Ae es.length ce))
      have RP:Hid (RS w1 w1.heap.size ((u2.setCell (Pw w2 2) (Jq b)).setCell (Pw w2 5) (.slice Ae es.length ce)) rf):=hJ (RC1.out.wrote WF.out (by have:=hp2.out;omega) (by have:=hp2.out;omega))
      have XF:Hid (Ext (w.alloc (.cells #[Jq 0,Jq 0,Jq 0,Jq 0,.string ⟨#[]⟩,Zq] 110)) ((u2.setCell (Pw w2 2) (Jq b)).setCell (Pw w2 5) (.slice Ae es.length ce))):=hJ (X1.out.trans (WF.out.ext XC1.out (by have:=hp2.out;omega)))
      have HOQ:Hid (qaz.OB ((u2.setCell (Pw w2 2) (Jq b)).setCell (Pw w2 5) (.slice Ae es.length ce)) w.heap.size (.slice Ae es.length ce) es):=hJ ((WF.out.ob HOB.out hoq.out).baseOB (by have:=X1.out.size;have:=XC0.out.size;have:=hs2.out;simp at *;omega))
      have hor:Hid (∀k,(Value.slice Ae es.length ce).ownBlock=some k→k≠w.heap.size):=hJ (fun k hk=>by have:=(HOB.out.1.lt k hk).1;have:=X1.out.size;have:=hp2.out;have:=SC0.out;simp at *;omega)
      go_wp2;clear WF q0 q1 q2 q3 q4 q5 v0 v1 v2 v3 v4 v5;generalize ((u2.setCell (Pw w2 2) (Jq b)).setCell (Pw w2 5) (.slice Ae es.length ce))=wf at *
      clear z0 z1 z2 z3 z4 z5 y0 y1 y2 y3 y4 y5;obtain⟨Ab,cb,k0,k1,_,_,_,_,hpl⟩:=RP.out.parts
      obtain⟨q0,q1,q2,q3,q4,q5⟩:=six BQ.out
      obtain⟨z0,z1,z2,z3,z4,z5⟩:=qbb (BIs.ext (BIs.new w _ _) XF.out)
      obtain⟨y0,y1,y2,y3,y4,y5⟩:=six (BIs.ext (BIs.new w _ _) XF.out)
      have hne1:w2.heap.size≠w.heap.size:=by have:=hp2.out;have:=X1.out.size;simp at this;omega
      have hne2:w1.heap.size≠w.heap.size:=by have:=X1.out.size;simp at this;omega
      cases hff:rf.2 with
      | true=>
       rw[hff] at k1
       have HF:Hid (qa3 frame=none):=hJ (by rw[HRF.out,if_neg (by rw[hff];simp)])
       refine qac 16 (fun w'=>w'.cell? (Pw w2 0)=some (Jq 14)∧w'.cell? (Pw w2 1)=some (Jq a)∧w'.cell? (Pw w2 2)=some (Jq b)∧w'.cell? (Pw w2 3)=some (Jq 0)∧w'.cell? (Pw w2 4)=some (.string ⟨#[]⟩)∧w'.cell? (Pw w2 5)=some (.slice Ae es.length ce)∧w'.cell? (Pw w1 0)=some (.slice Ab rf.1.length cb)∧w'.cell? (Pw w1 1)=some (.bool true)) (by kernel_rfl) ⟨q0,q1,q2,q3,q4,q5,k0,k1⟩ (fun hHeld=>?_)
       refine E_t 0 72 ?_;refine E_t 1 73 ?_;refine E_t 2 74 ?_;refine E_t 3 75 ?_;refine E_t 4 76 ?_;refine E_t 5 77 ?_;refine E_t 6 78 ?_;refine E_s 7 79 ?_;refine E_s 8 80 ?_;refine E_s 9 81 ?_;refine E_s 10 82 ?_;refine E_s 11 83 ?_;refine E_s 12 84 ?_;refine E_t 13 85 ?_;refine E_r 14 none fun K hK=>?_
       exact qqH
      | false=>
       rw[hff] at k1
       by_cases hz:rf.1.length=0
       ·have hzz:((rf.1.length:Int) == 0)=true:=by simp[hz]
        have HF:Hid (qa3 frame=some ⟨14,a,b,0,[],es⟩):=hJ (by rw[HRF.out,if_pos (by rw[hff];simpa using hz)])
        clear hz;refine qac 16 (fun w'=>w'.cell? (Pw w2 0)=some (Jq 14)∧w'.cell? (Pw w2 1)=some (Jq a)∧w'.cell? (Pw w2 2)=some (Jq b)∧w'.cell? (Pw w2 3)=some (Jq 0)∧w'.cell? (Pw w2 4)=some (.string ⟨#[]⟩)∧w'.cell? (Pw w2 5)=some (.slice Ae es.length ce)∧w'.cell? (Pw w1 0)=some (.slice Ab rf.1.length cb)∧w'.cell? (Pw w1 1)=some (.bool false)) (by kernel_rfl) ⟨q0,q1,q2,q3,q4,q5,k0,k1⟩ (fun hHeld=>?_)
        refine E_t 0 72 ?_;refine E_t 1 73 ?_;refine E_t 2 74 ?_;refine E_t 3 75 ?_;refine E_t 4 76 ?_;refine E_t 5 77 ?_;refine E_t 6 78 ?_;refine E_t 7 79 ?_;refine E_t 8 80 ?_;refine E_t 9 81 ?_;refine E_t 10 82 ?_;refine E_t 11 83 ?_;refine E_t 12 84 ?_;refine E_t 13 85 ?_;refine E_r 14 none fun K hK=>?_
        go_simp;clear hHeld;refine hK.out _ _ ⟨(qaj hne1).trans q0,(qaj hne1).trans q1,(qaj hne1).trans q2,(qaj hne1).trans q3,(qaj hne1).trans q4,(qaj hne1).trans q5,(qaj hne2).trans k0,(qaj hne2).trans k1⟩ (fun hHeld=>?_)
        clear hK K;try simp only[Act.put,aP1,aP2,aP3]
        refine E_t 15 3 ?_;refine qaE (by kernel_rfl) (by rfl) ?_
        go_wp2;have BF:Hid (BIs ((((((wf.setCell (Pw w 0) (Jq 14)).setCell (Pw w 1) (Jq a)).setCell (Pw w 2) (Jq b)).setCell (Pw w 3) (Jq 0)).setCell (Pw w 4) (.string ⟨#[]⟩)).setCell (Pw w 5) (.slice Ae es.length ce)).drew w.heap.size #[Jq 14,Jq a,Jq b,Jq 0,.string ⟨#[]⟩,.slice Ae es.length ce] 110):=hJ ((qce (BIs.ext (BIs.new w _ _) XF.out)).ext Ext.drew1)
        have XFF:Hid (Ext w ((((((wf.setCell (Pw w 0) (Jq 14)).setCell (Pw w 1) (Jq a)).setCell (Pw w 2) (Jq b)).setCell (Pw w 3) (Jq 0)).setCell (Pw w 4) (.string ⟨#[]⟩)).setCell (Pw w 5) (.slice Ae es.length ce)).drew):=hJ ((qcv (E0.out.trans XF.out)).trans Ext.drew1)
        have HOF:Hid (qaz.OB ((((((wf.setCell (Pw w 0) (Jq 14)).setCell (Pw w 1) (Jq a)).setCell (Pw w 2) (Jq b)).setCell (Pw w 3) (Jq 0)).setCell (Pw w 4) (.string ⟨#[]⟩)).setCell (Pw w 5) (.slice Ae es.length ce)).drew w.heap.size (.slice Ae es.length ce) es):=hJ ((qnI HOQ.out hor.out).ext Ext.drew1)
        generalize ((((((wf.setCell (Pw w 0) (Jq 14)).setCell (Pw w 1) (Jq a)).setCell (Pw w 2) (Jq b)).setCell (Pw w 3) (Jq 0)).setCell (Pw w 4) (.string ⟨#[]⟩)).setCell (Pw w 5) (.slice Ae es.length ce)).drew=W at *
        obtain⟨g0,g1,g2,g3,g4,g5⟩:=six BF.out
        refine bodyPost_ret (v:=.tuple #[.agg #[Jq 14,Jq a,Jq b,Jq 0,.string ⟨#[]⟩,.slice Ae es.length ce],.bool true]) (by simp[results,Tryz.results72,go_sem,g0,g1,g2,g3,g4,g5]) rfl ?_
        exact .inr ⟨⟨14,a,b,0,[],es⟩,Ae,ce,rfl,HF.out,he1,he2,HOF.out,XFF.out⟩
       ·have hzz:((rf.1.length:Int) == 0)=false:=by simp;exact fun e=>hz (by simp[e])
        have HF:Hid (qa3 frame=none):=hJ (by rw[HRF.out,if_neg (by rw[hff];simpa using hz)])
        clear hz;refine qac 16 (fun w'=>w'.cell? (Pw w2 0)=some (Jq 14)∧w'.cell? (Pw w2 1)=some (Jq a)∧w'.cell? (Pw w2 2)=some (Jq b)∧w'.cell? (Pw w2 3)=some (Jq 0)∧w'.cell? (Pw w2 4)=some (.string ⟨#[]⟩)∧w'.cell? (Pw w2 5)=some (.slice Ae es.length ce)∧w'.cell? (Pw w1 0)=some (.slice Ab rf.1.length cb)∧w'.cell? (Pw w1 1)=some (.bool false)) (by kernel_rfl) ⟨q0,q1,q2,q3,q4,q5,k0,k1⟩ (fun hHeld=>?_)
        refine E_t 0 72 ?_;refine E_t 1 73 ?_;refine E_t 2 74 ?_;refine E_t 3 75 ?_;refine E_t 4 76 ?_;refine E_t 5 77 ?_;refine E_t 6 78 ?_;refine E_t 7 79 ?_;refine E_t 8 80 ?_;refine E_t 9 81 ?_;refine E_t 10 82 ?_;refine E_t 11 83 ?_;refine E_t 12 84 ?_;refine E_t 13 85 ?_;refine E_r 14 none fun K hK=>?_
        exact qqH
     ·have hkk14:(kind == 14)=false:=by simpa using hk14
      by_cases hk15:kind=15
      ·subst hk15
       obtain⟨⟨a,r1⟩,ha⟩:∃d,qdr (body,false)=d:=⟨_,rfl⟩
       have HA:=hJ ha
       obtain⟨⟨es,rf⟩,hc0⟩:∃d,qcT r1=d:=⟨_,rfl⟩
       have HC0:=hJ hc0
       have HRF:Hid (qa3 frame=if rf.2=false∧rf.1.length=0 then some ⟨15,a,0,0,[],es⟩ else none):=hJ (by unfold qa3;rw[HOP.out];simp only;rw[if_neg hbad];unfold qec;simp only[ha,hc0,if_true,if_false,Int.reduceEq])
       clear hbad ha hc0;go_enter Tryz.func72,Tryz.ntmps72
       go_wp2_with fail
       refine(qc7 A c frame _ H0.out hc hl).mono ?_
       rintro en w1 ⟨A1,c1,rfl,h11,h12,ho1,hx1⟩
       have X1:=hJ hx1
       obtain⟨z0,z1,z2,z3,z4,z5⟩:=qbb (BIs.ext (BIs.new w _ _) hx1)
       obtain⟨y0,y1,y2,y3,y4,y5⟩:=six (BIs.ext (BIs.new w _ _) hx1)
       rw[HOP.out] at ho1 h11⊢
       simp only at ho1 h11
       have HB1:=hJ ho1.row
       clear ho1 hx1;have RS0:Hid (RS w1 w1.heap.size (w1.alloc (.cells #[.slice A1 body.length c1,.bool false] 175)) (body,false)):=hJ ⟨Nat.le_refl _,Ext.new _ _,hbl.out,A1,c1,BIs.new _ _ _,HB1.out,h11⟩
       go_wp2_with fail
       refine(qaU w1 w1.heap.size (body,false) _ RS0.out).mono ?_
       rintro en w2 ⟨rfl,hr2,hw2⟩
       rw[HA.out] at hr2⊢
       simp only at hr2
       have X12:Hid (Ext w1 w2):=hJ ((hw2.ext (Ext.new w1 _)) (Nat.le_refl _))
       have hp2:Hid (w1.heap.size<w2.heap.size):=hJ hr2.parts.choose_spec.choose_spec.2.2.2.2.2.2
       have R2:Hid (RS w1 w1.heap.size (w2.alloc (.cells #[Jq 15,Jq a,Jq 0,Jq 0,.string ⟨#[]⟩,Zq] 110)) r1):=hJ (hr2.ext (Ext.new _ _))
       have B2:Hid (BIs (w2.alloc (.cells #[Jq 15,Jq a,Jq 0,Jq 0,.string ⟨#[]⟩,Zq] 110)) w2.heap.size #[Jq 15,Jq a,Jq 0,Jq 0,.string ⟨#[]⟩,Zq] 110):=hJ (BIs.new _ _ _)
       have X2:Hid (Ext w1 (w2.alloc (.cells #[Jq 15,Jq a,Jq 0,Jq 0,.string ⟨#[]⟩,Zq] 110))):=hJ (X12.out.trans (Ext.new _ _))
       have hs2:Hid (w2.heap.size+1=(w2.alloc (.cells #[Jq 15,Jq a,Jq 0,Jq 0,.string ⟨#[]⟩,Zq] 110)).heap.size):=hJ (by simp)
       clear hr2 hw2;go_wp2_with fail
       generalize hW2:w2.alloc (.cells #[Jq 15,Jq a,Jq 0,Jq 0,.string ⟨#[]⟩,Zq] 110)=u0 at *
       clear hW2;refine(qeb w1 w1.heap.size r1 u0 R2.out).mono ?_
       rintro en u1 ⟨Ae,ce,rfl,he1,he2,hob,hr2,hw2⟩
       rw[HC0.out] at he1 hob hr2⊢
       simp only at he1 hob hr2
       have HOB:=hJ hob
       clear hob;have RC0:=hJ hr2
       have BC0:=hJ (hw2.bis B2.out (by have:=hp2.out;omega))
       have XC0:Hid (Ext w1 u1):=hJ (hw2.ext X2.out (Nat.le_refl _))
       have SC0:Hid (w2.heap.size<u1.heap.size):=hJ BC0.out.lt
       have hoq:Hid (∀k,(Value.slice Ae es.length ce).ownBlock=some k→k≠w2.heap.size):=hJ (fun k hk=>by have:=(HOB.out.1.lt k hk).1;have:=hs2.out;omega)
       clear hr2 hw2;obtain⟨q0,q1,q2,q3,q4,q5⟩:=six BC0.out
       obtain⟨v0,v1,v2,v3,v4,v5⟩:=qbb BC0.out
       have WF:Hid (Wrote w2.heap.size u1 (u1.setCell (Pw w2 5) (.slice Ae es.length ce))):=hJ ((Wrote.refl _ _).trans (Wrote.set _ _ _ _))
       have BQ:Hid (BIs (u1.setCell (Pw w2 5) (.slice Ae es.length ce)) w2.heap.size #[Jq 15,Jq a,Jq 0,Jq 0,.string ⟨#[]⟩,.slice Ae es.length ce] 110):=hJ ((BC0.out).set 5 (.slice Ae es.length ce))
       have RP:Hid (RS w1 w1.heap.size (u1.setCell (Pw w2 5) (.slice Ae es.length ce)) rf):=hJ (RC0.out.wrote WF.out (by have:=hp2.out;omega) (by have:=hp2.out;omega))
       have XF:Hid (Ext (w.alloc (.cells #[Jq 0,Jq 0,Jq 0,Jq 0,.string ⟨#[]⟩,Zq] 110)) (u1.setCell (Pw w2 5) (.slice Ae es.length ce))):=hJ (X1.out.trans (WF.out.ext XC0.out (by have:=hp2.out;omega)))
       have HOQ:Hid (qaz.OB (u1.setCell (Pw w2 5) (.slice Ae es.length ce)) w.heap.size (.slice Ae es.length ce) es):=hJ ((WF.out.ob HOB.out hoq.out).baseOB (by have:=X1.out.size;have:=X2.out.size;have:=hs2.out;simp at *;omega))
       have hor:Hid (∀k,(Value.slice Ae es.length ce).ownBlock=some k→k≠w.heap.size):=hJ (fun k hk=>by have:=(HOB.out.1.lt k hk).1;have:=X1.out.size;have:=hp2.out;have:=hs2.out;simp at *;omega)
       go_wp2;clear WF q0 q1 q2 q3 q4 q5 v0 v1 v2 v3 v4 v5;generalize (u1.setCell (Pw w2 5) (.slice Ae es.length ce))=wf at *
       clear z0 z1 z2 z3 z4 z5 y0 y1 y2 y3 y4 y5;obtain⟨Ab,cb,k0,k1,_,_,_,_,hpl⟩:=RP.out.parts
       obtain⟨q0,q1,q2,q3,q4,q5⟩:=six BQ.out
       obtain⟨z0,z1,z2,z3,z4,z5⟩:=qbb (BIs.ext (BIs.new w _ _) XF.out)
       obtain⟨y0,y1,y2,y3,y4,y5⟩:=six (BIs.ext (BIs.new w _ _) XF.out)
       have hne1:w2.heap.size≠w.heap.size:=by have:=hp2.out;have:=X1.out.size;simp at this;omega
       have hne2:w1.heap.size≠w.heap.size:=by have:=X1.out.size;simp at this;omega
       cases hff:rf.2 with
       | true=>
        rw[hff] at k1
        have HF:Hid (qa3 frame=none):=hJ (by rw[HRF.out,if_neg (by rw[hff];simp)])
        refine qac 16 (fun w'=>w'.cell? (Pw w2 0)=some (Jq 15)∧w'.cell? (Pw w2 1)=some (Jq a)∧w'.cell? (Pw w2 2)=some (Jq 0)∧w'.cell? (Pw w2 3)=some (Jq 0)∧w'.cell? (Pw w2 4)=some (.string ⟨#[]⟩)∧w'.cell? (Pw w2 5)=some (.slice Ae es.length ce)∧w'.cell? (Pw w1 0)=some (.slice Ab rf.1.length cb)∧w'.cell? (Pw w1 1)=some (.bool true)) (by kernel_rfl) ⟨q0,q1,q2,q3,q4,q5,k0,k1⟩ (fun hHeld=>?_)
        refine E_t 0 72 ?_;refine E_t 1 73 ?_;refine E_t 2 74 ?_;refine E_t 3 75 ?_;refine E_t 4 76 ?_;refine E_t 5 77 ?_;refine E_t 6 78 ?_;refine E_s 7 79 ?_;refine E_s 8 80 ?_;refine E_s 9 81 ?_;refine E_s 10 82 ?_;refine E_s 11 83 ?_;refine E_s 12 84 ?_;refine E_t 13 85 ?_;refine E_r 14 none fun K hK=>?_
        exact qqL
       | false=>
        rw[hff] at k1
        by_cases hz:rf.1.length=0
        ·have hzz:((rf.1.length:Int) == 0)=true:=by simp[hz]
         have HF:Hid (qa3 frame=some ⟨15,a,0,0,[],es⟩):=hJ (by rw[HRF.out,if_pos (by rw[hff];simpa using hz)])
         clear hz;refine qac 16 (fun w'=>w'.cell? (Pw w2 0)=some (Jq 15)∧w'.cell? (Pw w2 1)=some (Jq a)∧w'.cell? (Pw w2 2)=some (Jq 0)∧w'.cell? (Pw w2 3)=some (Jq 0)∧w'.cell? (Pw w2 4)=some (.string ⟨#[]⟩)∧w'.cell? (Pw w2 5)=some (.slice Ae es.length ce)∧w'.cell? (Pw w1 0)=some (.slice Ab rf.1.length cb)∧w'.cell? (Pw w1 1)=some (.bool false)) (by kernel_rfl) ⟨q0,q1,q2,q3,q4,q5,k0,k1⟩ (fun hHeld=>?_)
         refine E_t 0 72 ?_;refine E_t 1 73 ?_;refine E_t 2 74 ?_;refine E_t 3 75 ?_;refine E_t 4 76 ?_;refine E_t 5 77 ?_;refine E_t 6 78 ?_;refine E_t 7 79 ?_;refine E_t 8 80 ?_;refine E_t 9 81 ?_;refine E_t 10 82 ?_;refine E_t 11 83 ?_;refine E_t 12 84 ?_;refine E_t 13 85 ?_;refine E_r 14 none fun K hK=>?_
         go_simp;clear hHeld;refine hK.out _ _ ⟨(qaj hne1).trans q0,(qaj hne1).trans q1,(qaj hne1).trans q2,(qaj hne1).trans q3,(qaj hne1).trans q4,(qaj hne1).trans q5,(qaj hne2).trans k0,(qaj hne2).trans k1⟩ (fun hHeld=>?_)
         clear hK K;try simp only[Act.put,aP1,aP2,aP3]
         refine E_t 15 3 ?_;refine qaE (by kernel_rfl) (by rfl) ?_
         go_wp2;have BF:Hid (BIs ((((((wf.setCell (Pw w 0) (Jq 15)).setCell (Pw w 1) (Jq a)).setCell (Pw w 2) (Jq 0)).setCell (Pw w 3) (Jq 0)).setCell (Pw w 4) (.string ⟨#[]⟩)).setCell (Pw w 5) (.slice Ae es.length ce)).drew w.heap.size #[Jq 15,Jq a,Jq 0,Jq 0,.string ⟨#[]⟩,.slice Ae es.length ce] 110):=hJ ((qce (BIs.ext (BIs.new w _ _) XF.out)).ext Ext.drew1)
         have XFF:Hid (Ext w ((((((wf.setCell (Pw w 0) (Jq 15)).setCell (Pw w 1) (Jq a)).setCell (Pw w 2) (Jq 0)).setCell (Pw w 3) (Jq 0)).setCell (Pw w 4) (.string ⟨#[]⟩)).setCell (Pw w 5) (.slice Ae es.length ce)).drew):=hJ ((qcv (E0.out.trans XF.out)).trans Ext.drew1)
         have HOF:Hid (qaz.OB ((((((wf.setCell (Pw w 0) (Jq 15)).setCell (Pw w 1) (Jq a)).setCell (Pw w 2) (Jq 0)).setCell (Pw w 3) (Jq 0)).setCell (Pw w 4) (.string ⟨#[]⟩)).setCell (Pw w 5) (.slice Ae es.length ce)).drew w.heap.size (.slice Ae es.length ce) es):=hJ ((qnI HOQ.out hor.out).ext Ext.drew1)
         generalize ((((((wf.setCell (Pw w 0) (Jq 15)).setCell (Pw w 1) (Jq a)).setCell (Pw w 2) (Jq 0)).setCell (Pw w 3) (Jq 0)).setCell (Pw w 4) (.string ⟨#[]⟩)).setCell (Pw w 5) (.slice Ae es.length ce)).drew=W at *
         obtain⟨g0,g1,g2,g3,g4,g5⟩:=six BF.out
         refine bodyPost_ret (v:=.tuple #[.agg #[Jq 15,Jq a,Jq 0,Jq 0,.string ⟨#[]⟩,.slice Ae es.length ce],.bool true]) (by simp[results,Tryz.results72,go_sem,g0,g1,g2,g3,g4,g5]) rfl ?_
         exact .inr ⟨⟨15,a,0,0,[],es⟩,Ae,ce,rfl,HF.out,he1,he2,HOF.out,XFF.out⟩
        ·have hzz:((rf.1.length:Int) == 0)=false:=by simp;exact fun e=>hz (by simp[e])
         have HF:Hid (qa3 frame=none):=hJ (by rw[HRF.out,if_neg (by rw[hff];simpa using hz)])
         clear hz;refine qac 16 (fun w'=>w'.cell? (Pw w2 0)=some (Jq 15)∧w'.cell? (Pw w2 1)=some (Jq a)∧w'.cell? (Pw w2 2)=some (Jq 0)∧w'.cell? (Pw w2 3)=some (Jq 0)∧w'.cell? (Pw w2 4)=some (.string ⟨#[]⟩)∧w'.cell? (Pw w2 5)=some (.slice Ae es.length ce)∧w'.cell? (Pw w1 0)=some (.slice Ab rf.1.length cb)∧w'.cell? (Pw w1 1)=some (.bool false)) (by kernel_rfl) ⟨q0,q1,q2,q3,q4,q5,k0,k1⟩ (fun hHeld=>?_)
         refine E_t 0 72 ?_;refine E_t 1 73 ?_;refine E_t 2 74 ?_;refine E_t 3 75 ?_;refine E_t 4 76 ?_;refine E_t 5 77 ?_;refine E_t 6 78 ?_;refine E_t 7 79 ?_;refine E_t 8 80 ?_;refine E_t 9 81 ?_;refine E_t 10 82 ?_;refine E_t 11 83 ?_;refine E_t 12 84 ?_;refine E_t 13 85 ?_;refine E_r 14 none fun K hK=>?_
         exact qqL
      ·have hkk15:(kind == 15)=false:=by simpa using hk15
       have HF:Hid (qa3 frame=none):=hJ (by unfold qa3;rw[HOP.out];simp only;rw[if_neg hbad];unfold qec;simp only[hk11,hk12,hk13,hk14,hk15,if_false])
       clear hbad hk11 hk12 hk13 hk14 hk15;go_enter Tryz.func72,Tryz.ntmps72
       go_wp2_with fail
       refine(qc7 A c frame _ H0.out hc hl).mono ?_
       rintro en w1 ⟨A1,c1,rfl,h11,h12,ho1,hx1⟩
       have X1:=hJ hx1
       obtain⟨z0,z1,z2,z3,z4,z5⟩:=qbb (BIs.ext (BIs.new w _ _) hx1)
       obtain⟨y0,y1,y2,y3,y4,y5⟩:=six (BIs.ext (BIs.new w _ _) hx1)
       rw[HOP.out] at ho1 h11⊢
       simp only at ho1 h11
       have HB1:=hJ ho1.row
       clear ho1 hx1;have RS0:Hid (RS w1 w1.heap.size (w1.alloc (.cells #[.slice A1 body.length c1,.bool false] 175)) (body,false)):=hJ ⟨Nat.le_refl _,Ext.new _ _,hbl.out,A1,c1,BIs.new _ _ _,HB1.out,h11⟩
       obtain⟨⟨a,r1⟩,ha⟩:∃d,qdr (body,false)=d:=⟨_,rfl⟩
       have HA:=hJ ha
       clear ha;go_wp2_with fail
       refine(qaU w1 w1.heap.size (body,false) _ RS0.out).mono ?_
       rintro en w2 ⟨rfl,hr2,hw2⟩
       rw[HA.out] at hr2⊢
       simp only at hr2
       have X12:Hid (Ext w1 w2):=hJ ((hw2.ext (Ext.new w1 _)) (Nat.le_refl _))
       have hp2:Hid (w1.heap.size<w2.heap.size):=hJ hr2.parts.choose_spec.choose_spec.2.2.2.2.2.2
       have R2:Hid (RS w1 w1.heap.size (w2.alloc (.cells #[Jq kind,Jq a,Jq 0,Jq 0,.string ⟨#[]⟩,Zq] 110)) r1):=hJ (hr2.ext (Ext.new _ _))
       have B2:Hid (BIs (w2.alloc (.cells #[Jq kind,Jq a,Jq 0,Jq 0,.string ⟨#[]⟩,Zq] 110)) w2.heap.size #[Jq kind,Jq a,Jq 0,Jq 0,.string ⟨#[]⟩,Zq] 110):=hJ (BIs.new _ _ _)
       have X2:Hid (Ext w1 (w2.alloc (.cells #[Jq kind,Jq a,Jq 0,Jq 0,.string ⟨#[]⟩,Zq] 110))):=hJ (X12.out.trans (Ext.new _ _))
       have hs2:Hid (w2.heap.size+1=(w2.alloc (.cells #[Jq kind,Jq a,Jq 0,Jq 0,.string ⟨#[]⟩,Zq] 110)).heap.size):=hJ (by simp)
       clear hr2 hw2;have XF:Hid (Ext (w.alloc (.cells #[Jq 0,Jq 0,Jq 0,Jq 0,.string ⟨#[]⟩,Zq] 110)) w2):=hJ (X1.out.trans X12.out)
       clear y0 y1 y2 y3 y4 y5 z0 z1 z2 z3 z4 z5;obtain⟨y0,y1,y2,y3,y4,y5⟩:=six (BIs.ext (BIs.new w _ _) XF.out)
       obtain⟨z0,z1,z2,z3,z4,z5⟩:=qbb (BIs.ext (BIs.new w _ _) XF.out)
       have hlt:w.heap.size<w2.heap.size:=by have:=XF.out.size;simp at this;omega
       go_wp2;have BF:Hid (BIs (((((((w2.setCell (Pw w 0) (Jq 0)).setCell (Pw w 1) (Jq 0)).setCell (Pw w 2) (Jq 0)).setCell (Pw w 3) (Jq 0)).setCell (Pw w 4) (.string ⟨#[]⟩)).setCell (Pw w 5) Zq).alloc (.cells #[Jq kind,Jq a,Jq 0,Jq 0,.string ⟨#[]⟩,Zq] 110)) w.heap.size #[Jq 0,Jq 0,Jq 0,Jq 0,.string ⟨#[]⟩,Zq] 110):=hJ ((qce (BIs.ext (BIs.new w _ _) XF.out)).ext (Ext.new _ _))
       have XFF:Hid (Ext w (((((((w2.setCell (Pw w 0) (Jq 0)).setCell (Pw w 1) (Jq 0)).setCell (Pw w 2) (Jq 0)).setCell (Pw w 3) (Jq 0)).setCell (Pw w 4) (.string ⟨#[]⟩)).setCell (Pw w 5) Zq).alloc (.cells #[Jq kind,Jq a,Jq 0,Jq 0,.string ⟨#[]⟩,Zq] 110))):=hJ ((qcv (E0.out.trans XF.out)).trans (Ext.new _ _))
       generalize ((((((w2.setCell (Pw w 0) (Jq 0)).setCell (Pw w 1) (Jq 0)).setCell (Pw w 2) (Jq 0)).setCell (Pw w 3) (Jq 0)).setCell (Pw w 4) (.string ⟨#[]⟩)).setCell (Pw w 5) Zq).alloc (.cells #[Jq kind,Jq a,Jq 0,Jq 0,.string ⟨#[]⟩,Zq] 110)=W at *
       obtain⟨g0,g1,g2,g3,g4,g5⟩:=six BF.out
       refine bodyPost_ret (v:=.tuple #[.agg #[Jq 0,Jq 0,Jq 0,Jq 0,.string ⟨#[]⟩,Zq],.bool false]) (by simp[results,Tryz.results72,go_sem,g0,g1,g2,g3,g4,g5]) rfl ?_
       exact .inl ⟨_,_,_,_,_,_,_,_,rfl,HF.out,XFF.out⟩
end Go.Proofs.YtponbabbabnaeaaGreat
