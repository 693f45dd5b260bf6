/- Part 27 of the proof: contracts of functions that the statement reaches. Conditions: as each theorem says. -/
import Derived.Test.YtponbabbabnaeaaGreatRows
import Derived.ProofKit
import Derived.OpenShut
import Derived.ShutString
import Derived.ChangeOld
import Derived.Below
import Derived.Lib.SmallJoins
import Derived.Deep.Slices
import Derived.Deep.Fields
import Derived.ChangeMaps5
import Derived.Test.YtponbabbabnaeaaGreatQf21
import Derived.Test.YtponbabbabnaeaaGreatQf15
import Derived.Test.YtponbabbabnaeaaGreatQf13
import Derived.Test.YtponbabbabnaeaaGreatQf01
import Derived.Test.YtponbabbabnaeaaGreatQf06
import Derived.Test.YtponbabbabnaeaaGreatQf07
import Derived.Test.YtponbabbabnaeaaGreatQf08
import Derived.Test.YtponbabbabnaeaaGreatQf22
import Derived.Test.YtponbabbabnaeaaGreatQf26
set_option maxRecDepth 100000
set_option maxHeartbeats 40000000
namespace Go.Proofs.YtponbabbabnaeaaGreat
open Go.RowKit
theorem qov {P : Prop} (h : P := by
 clear y0 y1 y2 y3 y4 y5 y6 y7 y8 z0 z1 z2 z3 z4 z5 z6 z7 z8;clear yH;refine hK.out _ _ ⟨B_v.out.cell 0,B_v.out.cell 1,RC.out.at_ HX.out⟩ (fun yH=>?_);clear hK K;try simp only[Act.put,aP1,aP2,aP3]
 refine E_t 12 6 ?_;refine E_e ?_;clear cx v0 v1;obtain⟨q0,q1,q2,q3,q4,q5,q6,q7,q8⟩:=qbU B_s.out;have HLN:=hJ (qo6 HW.out hk);go_wp2_with fail;go_at_call 94;refine(qrg m w.heap.size col6 p b _ C.out RD.out (by have:=HLN.out;omega) (by have:=HLN.out;omega) (by have:=HLN.out;omega) (by have:=HLN.out;omega)).mono ?_;rintro en w9 ⟨m9,col9,rfl,ws9,wd9,st9⟩;have C9:=hJ ws9;have BL9:=hJ (BL.out.trans st9.below);have K9_v:=hJ ((st9.hue _ B_v.out.lt).trans K_v.out);have B9_v:=hJ (st9.bis B_v.out (by rw[K_v.out];decide));have K9_t:=hJ ((st9.hue _ B_t.out.lt).trans K_t.out);have B9_t:=hJ (st9.bis B_t.out (by rw[K_t.out];decide));have RC9:=hJ (RC.out.keep st9 (by decide));have HW9:Hid (m9.wd=qdB (n,xs) (k+1)):=hJ (by rw[wd9,HW.out,HST.out];exact(qhz HX.out).symm);clear ws9 st9 wd9 q0 q1 q2 q3 q4 q5 q6 q7 q8;go_wp2;go_roundw
 case rel=>exact⟨k+1,m9,col9,by omega,by go_num,C9,HW9,B9_v,K9_v,B9_t,K9_t,RC9,BL9⟩
 case measure=>simp[intOf];omega) : P := h
theorem qlB {P : Prop} (h : P := by
 simp only;rw[if_neg (by omega),if_neg (by omega),if_neg (by omega)]) : P := h
def qdB(v:Vw)(k:Nat):Wd:=(v.2.take k).foldl (fun w m=>qq4 w (qbl v m).1) ⟨[v],[],[],[],[],[]⟩
theorem qm9(v:Vw):qdB v v.2.length=qc1 v:=by unfold qdB qc1;rw[List.take_length]
theorem qhz{n:Int}{xs:List Int}{k:Nat}{x:Int}(h:xs[k]?=some x):qdB (n,xs) (k+1)=qq4 (qdB (n,xs) k) (qbl (n,xs) x).1:=by
 unfold qdB;simp only;rw[List.take_add_one,h,List.foldl_append];rfl
theorem qiJ(v:Vw):∀k,k≤v.2.length→(qdB v k).mem.length=k∧(qdB v k).down.length=k∧(qdB v k).told.length=k∧(qdB v k).sent.length=k
 | 0,_=>by simp[qdB]
 | k+1,h=>by
  obtain⟨h1,h2,h3,h4⟩:=qiJ v k (by omega);rw[show qdB v (k+1)=_ from qhz (zY (show k<v.2.length by omega))];unfold qq4;simp only[zA,zK,List.length_nil];simp only[Prod.eta] at *;omega
theorem qo6{m:WM}{v:Vw}{k:Nat}(h:m.wd=qdB v k)(hk:k≤v.2.length):m.mem.length=k∧m.down.length=k∧m.told.length=k∧m.sent.length=k:=by
 have h1:=qiJ v k hk;rw[←h] at h1;simpa[WM.wd] using h1
def RowC(w:World)(col:Nat→Nat)(A:Option Addr)(xs:List Value):Prop:=Row w A xs∧ColR col 0 A xs
theorem RowC.keep{w w':World}{B:Nat}{cs:List Nat}{col col':Nat→Nat}{A:Option Addr}{xs:List Value}(h:RowC w col A xs)(s:Stp B cs col w col' w')(h0:0∉cs):RowC w' col' A xs:=⟨s.row h.1 h.2 h0,s.colR h.1 h.2⟩
theorem RowC.at_{w:World}{col:Nat→Nat}{b o k:Nat}{xs:List Int}{x:Int}(h:RowC w col (some (Pq b o)) (qaq xs))(hx:xs[k]?=some x):w.cell? (Pq b (o+k))=some (Jq x):=h.1.get (by unfold qaq;rw[zM,hx];rfl)
theorem que{w:World}{p:Nat}{a b:Value}{t:TypeId}(h:BIs w p #[a,b] t):w.cell? (Pq p 0)=some a∧w.cell? (Pq p 1)=some b:=⟨h.cell 0,h.cell 1⟩
theorem qpW{w:World}{r:Nat}{a b c d e f:Value}:Wrote r w ((((((w.setCell (Pq r 0) a).setCell (Pq r 1) b).setCell (Pq r 2) c).setCell (Pq r 3) d).setCell (Pq r 4) e).setCell (Pq r 5) f):=
 (((((Wrote.set r 0 w a).trans (Wrote.set r 1 _ b)).trans (Wrote.set r 2 _ c)).trans (Wrote.set r 3 _ d)).trans (Wrote.set r 4 _ e)).trans (Wrote.set r 5 _ f)
theorem qtO{α:Type}{E:Elem α}{w:World}{g B:Nat}{x:α}(h:BIs w g (E.f x).toArray E.ty)(hB:B≤g):E.Own w B (.slice (some (Pq g 0)) 1 1) [x]:=by
 have e:E.cells [x]=E.f x:=by rw[E.cells_cons];simp[Elem.cells]
 exact⟨by rw[e,E.len];simp,.inr ⟨g,1,_,rfl,hB,h,zR _,by decide,by simp[E.len],by rw[e];exact List.take_of_length_le (by rw[E.len];simp)⟩⟩
theorem qnX(n:Int)(A:Option Addr)(c:Nat)(xs:List Int)(w:World)(h:Row w A (qaq xs))(hc:xs.length≤c)(hm:c≤maxLen) :
  Ext w ((((w.alloc (.cells #[Jq n,.slice A xs.length c] 46)).alloc (.cells #[Zq,Zq,Zq,Zq,Zq,Zq] 59)).alloc (.cells #[Jq n,.slice A xs.length c] 46)).alloc (.cells #[.slice (some (Pq (w.heap.size+2) 0)) 1 1,Zq,Zq,Zq,Zq,Zq] 59))∧BIs ((((w.alloc (.cells #[Jq n,.slice A xs.length c] 46)).alloc (.cells #[Zq,Zq,Zq,Zq,Zq,Zq] 59)).alloc (.cells #[Jq n,.slice A xs.length c] 46)).alloc (.cells #[.slice (some (Pq (w.heap.size+2) 0)) 1 1,Zq,Zq,Zq,Zq,Zq] 59)) w.heap.size #[Jq n,.slice A xs.length c] 46∧BIs ((((w.alloc (.cells #[Jq n,.slice A xs.length c] 46)).alloc (.cells #[Zq,Zq,Zq,Zq,Zq,Zq] 59)).alloc (.cells #[Jq n,.slice A xs.length c] 46)).alloc (.cells #[.slice (some (Pq (w.heap.size+2) 0)) 1 1,Zq,Zq,Zq,Zq,Zq] 59)) (w.heap.size+1) #[Zq,Zq,Zq,Zq,Zq,Zq] 59∧∃col:Nat→Nat,WS ((((w.alloc (.cells #[Jq n,.slice A xs.length c] 46)).alloc (.cells #[Zq,Zq,Zq,Zq,Zq,Zq] 59)).alloc (.cells #[Jq n,.slice A xs.length c] 46)).alloc (.cells #[.slice (some (Pq (w.heap.size+2) 0)) 1 1,Zq,Zq,Zq,Zq,Zq] 59)) w.heap.size col (w.heap.size+3) ⟨some (Pq (w.heap.size+2) 0),1,[⟨n,A,c,xs⟩],none,0,[],none,0,[],none,0,[],none,0,[],none,0,[]⟩∧col w.heap.size=0∧col (w.heap.size+1)=9∧RowC ((((w.alloc (.cells #[Jq n,.slice A xs.length c] 46)).alloc (.cells #[Zq,Zq,Zq,Zq,Zq,Zq] 59)).alloc (.cells #[Jq n,.slice A xs.length c] 46)).alloc (.cells #[.slice (some (Pq (w.heap.size+2) 0)) 1 1,Zq,Zq,Zq,Zq,Zq] 59)) col A (qaq xs):=by
 have X1:Ext w (w.alloc (.cells #[Jq n,.slice A xs.length c] 46)):=Ext.new _ _;have X2:Ext (w.alloc (.cells #[Jq n,.slice A xs.length c] 46)) ((w.alloc (.cells #[Jq n,.slice A xs.length c] 46)).alloc (.cells #[Zq,Zq,Zq,Zq,Zq,Zq] 59)):=Ext.new _ _;have X3:Ext ((w.alloc (.cells #[Jq n,.slice A xs.length c] 46)).alloc (.cells #[Zq,Zq,Zq,Zq,Zq,Zq] 59)) (((w.alloc (.cells #[Jq n,.slice A xs.length c] 46)).alloc (.cells #[Zq,Zq,Zq,Zq,Zq,Zq] 59)).alloc (.cells #[Jq n,.slice A xs.length c] 46)):=Ext.new _ _;have X4:Ext (((w.alloc (.cells #[Jq n,.slice A xs.length c] 46)).alloc (.cells #[Zq,Zq,Zq,Zq,Zq,Zq] 59)).alloc (.cells #[Jq n,.slice A xs.length c] 46)) ((((w.alloc (.cells #[Jq n,.slice A xs.length c] 46)).alloc (.cells #[Zq,Zq,Zq,Zq,Zq,Zq] 59)).alloc (.cells #[Jq n,.slice A xs.length c] 46)).alloc (.cells #[.slice (some (Pq (w.heap.size+2) 0)) 1 1,Zq,Zq,Zq,Zq,Zq] 59)):=Ext.new _ _;have B2:BIs ((w.alloc (.cells #[Jq n,.slice A xs.length c] 46)).alloc (.cells #[Zq,Zq,Zq,Zq,Zq,Zq] 59)) (w.heap.size+1) #[Zq,Zq,Zq,Zq,Zq,Zq] 59:=BIs.newAt (w:=(w.alloc (.cells #[Jq n,.slice A xs.length c] 46))) _ _ (by simp);have B3:BIs (((w.alloc (.cells #[Jq n,.slice A xs.length c] 46)).alloc (.cells #[Zq,Zq,Zq,Zq,Zq,Zq] 59)).alloc (.cells #[Jq n,.slice A xs.length c] 46)) (w.heap.size+2) #[Jq n,.slice A xs.length c] 46:=BIs.newAt (w:=((w.alloc (.cells #[Jq n,.slice A xs.length c] 46)).alloc (.cells #[Zq,Zq,Zq,Zq,Zq,Zq] 59))) _ _ (by simp);have B4:BIs ((((w.alloc (.cells #[Jq n,.slice A xs.length c] 46)).alloc (.cells #[Zq,Zq,Zq,Zq,Zq,Zq] 59)).alloc (.cells #[Jq n,.slice A xs.length c] 46)).alloc (.cells #[.slice (some (Pq (w.heap.size+2) 0)) 1 1,Zq,Zq,Zq,Zq,Zq] 59)) (w.heap.size+3) #[.slice (some (Pq (w.heap.size+2) 0)) 1 1,Zq,Zq,Zq,Zq,Zq] 59:=BIs.newAt (w:=(((w.alloc (.cells #[Jq n,.slice A xs.length c] 46)).alloc (.cells #[Zq,Zq,Zq,Zq,Zq,Zq] 59)).alloc (.cells #[Jq n,.slice A xs.length c] 46))) _ _ (by simp);have hsz:((((w.alloc (.cells #[Jq n,.slice A xs.length c] 46)).alloc (.cells #[Zq,Zq,Zq,Zq,Zq,Zq] 59)).alloc (.cells #[Jq n,.slice A xs.length c] 46)).alloc (.cells #[.slice (some (Pq (w.heap.size+2) 0)) 1 1,Zq,Zq,Zq,Zq,Zq] 59)).heap.size=w.heap.size+4:=by simp
 have X:=((X1.trans X2).trans X3).trans X4;refine⟨X,(BIs.new w _ _).ext ((X2.trans X3).trans X4),B2.ext (X3.trans X4),fun k=>if k=w.heap.size+1 then 9 else if k=w.heap.size+2 then 2 else if k=w.heap.size+3 then 1 else 0,⟨B4,?_,by omega,fun k hk=>?_,?_,Arr.nil _ _ _ _,Arr.nil _ _ _ _,Arr.nil _ _ _ _,Arr.nil _ _ _ _,Arr.nil _ _ _ _,fun i t ht=>by simp at ht,fun i t ht=>by simp at ht⟩,?_,?_,h.ext X,?_⟩
 ·simp only;rw[if_neg (by omega),if_neg (by omega),if_pos trivial]
 ·rw[hsz] at hk;(try simp only);rw[if_neg (by omega),if_neg (by omega),if_neg (by omega)]
 ·refine⟨qtO (E:=qaC) (x:=⟨n,A,c,xs⟩) (B3.ext X4) (by omega),fun q hq=>?_,fun a ha=>?_⟩
  ·simp only[Value.ownBlock,zJ] at hq;subst hq;simp only;rw[if_neg (by omega),if_pos trivial]
  ·simp only[zC,zN,or_false] at ha;subst ha;refine⟨⟨hc,hm⟩,fun r hr=>?_⟩;simp only[qaC,zC,zN,or_false] at hr;subst hr;refine⟨h.ext X,fun q hne hq=>?_⟩;obtain⟨b,off,h1,h2,_⟩:=h hne;simp only at hq;rw[h1] at hq;cases hq;exact qlB
 ·exact qlB
 ·simp only;rw[if_pos trivial]
 ·intro q hne hq;obtain⟨b,off,h1,h2,_⟩:=h hne;rw[h1] at hq;cases hq;exact qlB
def quU(w:World)(r:Wd)(en:Ending)(w':World):Prop:=∃m col p,en=.returned (.agg m.cells)∧WS w' w.heap.size col p m∧m.wd=r∧Below w.heap.size w w'
theorem qpK(n:Int)(A:Option Addr)(c:Nat)(xs:List Int)(w:World)(h:Row w A (qaq xs))(hc:xs.length≤c)(hm:c≤maxLen)(hx:xs.length≤16) :
  Calls Tryz.prog 26 #[.agg #[Jq n,.slice A xs.length c]] w (quU w (qc1 (n,xs))):=by
 obtain⟨XX,B1,B2,col,C0,K1,K2,R0⟩:=qnX n A c xs w h hc hm;replace XX:=hJ XX;replace B1:=hJ B1;replace B2:=hJ B2;replace C0:=hJ C0;replace K1:=hJ K1;replace K2:=hJ K2;replace R0:=hJ R0;have BL0:Hid (Below w.heap.size w ((((w.alloc (.cells #[Jq n,.slice A xs.length c] 46)).alloc (.cells #[Zq,Zq,Zq,Zq,Zq,Zq] 59)).alloc (.cells #[Jq n,.slice A xs.length c] 46)).alloc (.cells #[.slice (some (Pq (w.heap.size+2) 0)) 1 1,Zq,Zq,Zq,Zq,Zq] 59))):=hJ (XX.out.mono (zR _));have H0:=hJ h;clear h XX;go_enter Tryz.func26,Tryz.ntmps26;go_upto_region 2 with fail;generalize ((((w.alloc (.cells #[Jq n,.slice A xs.length c] 46)).alloc (.cells #[Zq,Zq,Zq,Zq,Zq,Zq] 59)).alloc (.cells #[Jq n,.slice A xs.length c] 46)).alloc (.cells #[.slice (some (Pq (w.heap.size+2) 0)) 1 1,Zq,Zq,Zq,Zq,Zq] 59))=u0 at *;obtain⟨M,hM⟩:∃m:WM,m=⟨some (Pq (w.heap.size+2) 0),1,[⟨n,A,c,xs⟩],none,0,[],none,0,[],none,0,[],none,0,[],none,0,[]⟩:=⟨_,rfl⟩;rw[←hM] at C0;have HW0:Hid (M.wd=qdB (n,xs) 0):=hJ (by rw[hM];rfl);clear hM;have Q2:Hid (w.heap.size≤w.heap.size+1):=hJ (by omega);obtain⟨p,hp⟩:∃x,x=w.heap.size+3:=⟨_,rfl⟩;rw[←hp] at C0⊢;obtain⟨r2,hr2⟩:∃x,x=w.heap.size+1:=⟨_,rfl⟩;rw[←hr2] at B2 K2 Q2⊢;clear hp hr2;go_wp2;go_loopw [4] (fun i wr=>∃(k:Nat) (m:WM) (colr:Nat→Nat),k≤xs.length∧i=Jq k∧Hid (WS wr w.heap.size colr p m)∧Hid (m.wd=qdB (n,xs) k)∧Hid (BIs wr w.heap.size #[Jq n,.slice A xs.length c] 46)∧Hid (colr w.heap.size=0)∧Hid (BIs wr r2 #[Zq,Zq,Zq,Zq,Zq,Zq] 59)∧Hid (colr r2=9)∧Hid (RowC wr colr A (qaq xs))∧Hid (Below w.heap.size w wr)) (fun i _=>xs.length - (intOf i).toNat)
 case atStart=>exact⟨0,M,col,zO _,rfl,C0,HW0,B1,K1,B2,K2,R0,BL0⟩
 case round=>
  clear C0 HW0 B1 K1 B2 K2 R0 BL0;obtain⟨k,m,colr,hk,rfl,C,HW,B_v,K_v,B_t,K_t,RC,BL⟩:=hrel;obtain⟨v0,v1⟩:=que B_v.out;by_cases hlt:k<xs.length;rotate_left
  ·have hkk:k=xs.length:=by omega
   have hw:m.wd=qc1 (n,xs):=by rw[HW.out,hkk,qm9]
   clear v0 v1;have v1:=B_v.out.cell 1;obtain⟨z0,z1,z2,z3,z4,z5⟩:=qaE C.out;obtain⟨y0,y1,y2,y3,y4,y5⟩:=six B_t.out;obtain⟨f0,f1,f2,f3,f4,f5⟩:=qbk B_t.out;go_wp2;generalize hQ:((((((wr.setCell (Pq r2 0) (.slice m.Av m.vs.length m.cv)).setCell (Pq r2 1) (.slice m.Am m.mem.length m.cm)).setCell (Pq r2 2) (.slice m.Ad m.down.length m.cd)).setCell (Pq r2 3) (.slice m.At m.told.length m.ct)).setCell (Pq r2 4) (.slice m.As m.sent.length m.cs)).setCell (Pq r2 5) (.slice m.Af m.fly.length m.cf))=wf at *;have ST:Hid (Stp w.heap.size [9] colr wr colr wf):=(by subst hQ;exact hJ (Stp.wrote qpW Q2.out C.out.Bsz (by rw[K_t.out];decide)));have BF:Hid (BIs wf r2 #[.slice m.Av m.vs.length m.cv,.slice m.Am m.mem.length m.cm,.slice m.Ad m.down.length m.cd,.slice m.At m.told.length m.ct,.slice m.As m.sent.length m.cs,.slice m.Af m.fly.length m.cf] 59):=(by subst hQ;exact hJ (qcE B_t.out));have CF:Hid (WS wf w.heap.size colr p m):=(by subst hQ;exact hJ (C.out.keepB ST.out (by decide) (fun k hk=>C.out.z k (zL ST.out.size hk))));have BF2:=hJ (BL.out.trans ST.out.below);clear hQ;obtain⟨g0,g1,g2,g3,g4,g5⟩:=six BF.out;refine bodyPost_ret (v:=.agg #[.slice m.Av m.vs.length m.cv,.slice m.Am m.mem.length m.cm,.slice m.Ad m.down.length m.cd,.slice m.At m.told.length m.ct,.slice m.As m.sent.length m.cs,.slice m.Af m.fly.length m.cf]) (by simp[results,Tryz.results26,go_sem,g0,g1,g2,g3,g4,g5]) rfl ?_;exact⟨m,colr,p,rfl,CF.out,hw,BF2.out⟩
  obtain⟨ab,ao,x,rfl,cx,HX⟩:=Row.at_ RC.out.1 hlt;have hlt':(k:Int)<(xs.length:Int):=by omega
  go_upto_region 5 with fail;refine E_g 13 (fun w'=>w'.cell? (Pw w 0)=some (Jq n)∧w'.cell? (Pw w 1)=some (.slice (some (Pq ab ao)) xs.length c)∧Cq w' ab (ao+k) (Jq x)) ⟨v0,v1,cx⟩ (fun yH=>?_);have XD:Hid (Ext wr wr.drew):=hJ zW;have ST:=hJ (Stp.ext' (B:=w.heap.size) (cs:=[]) (col:=colr) C.out.Bsz XD.out);replace BL:=hJ (BL.out.trans ST.out.below);replace C:=hJ (C.out.keepB ST.out (by decide) (fun k hk=>C.out.z k (zL (XD.out).size hk)));replace K_v:=hJ ((ST.out.hue _ B_v.out.lt).trans K_v.out);replace B_v:=hJ (ST.out.bis B_v.out (by rw[←ST.out.hue _ B_v.out.lt,K_v.out];decide));replace K_t:=hJ ((ST.out.hue _ B_t.out.lt).trans K_t.out);replace B_t:=hJ (ST.out.bis B_t.out (by rw[←ST.out.hue _ B_t.out.lt,K_t.out];decide));replace RC:=hJ (RC.out.keep ST.out (by decide));clear ST;clear XD;generalize wr.drew=u0 at *;refine E_t4 0 18 ?_;refine E_t2 4 22 ?_;refine qcC [6,10] (by kernel_rfl) (by simp) ?_;refine(AllE.cons (o:=⟨some 24,_,_,_,_,_⟩) rfl (fun K hK=>?_) (AllE.cons (o:=⟨some 5,_,_,_,_,_⟩) rfl (fun K hK=>?_) AllE.nil))
  ·go_simp;go_at_call 22;refine(qdm n _ c xs x _ RC.out.1 (by omega)).mono ?_;rintro en w3 ⟨b,rfl,hst,hrd,hft,hx,hnw⟩;have HST:=hJ hst;have RD:Hid (RdC w3 colr b):=hJ (qgZ hrd hft hnw C.out.z);clear hst hrd hft hnw;unfold BM.cells;have ST:=hJ (Stp.ext' (B:=w.heap.size) (cs:=[]) (col:=colr) C.out.Bsz hx);replace BL:=hJ (BL.out.trans ST.out.below);replace C:=hJ (C.out.keepB ST.out (by decide) (fun k hk=>C.out.z k (zL (hx).size hk)));replace K_v:=hJ ((ST.out.hue _ B_v.out.lt).trans K_v.out);replace B_v:=hJ (ST.out.bis B_v.out (by rw[←ST.out.hue _ B_v.out.lt,K_v.out];decide));replace K_t:=hJ ((ST.out.hue _ B_t.out.lt).trans K_t.out);replace B_t:=hJ (ST.out.bis B_t.out (by rw[←ST.out.hue _ B_t.out.lt,K_t.out];decide));replace RC:=hJ (RC.out.keep ST.out (by decide));clear ST;clear hx;clear yH;refine hK.out _ _ ⟨B_v.out.cell 0,B_v.out.cell 1,RC.out.at_ HX.out⟩ (fun yH=>?_);clear hK K;try simp only[Act.put,aP1,aP2,aP3]
   refine E_t 7 17 ?_;refine E_t2 8 25 ?_;refine E_r 10 (some 5) fun K hK=>?_;go_simp;have ST:Hid (Stp w.heap.size [] colr w3 (qdc colr w3.heap.size 8) (w3.alloc (.cells Yq 28))):=hJ (Stp.newBox C.out.Bsz);have B_s:Hid (BIs (w3.alloc (.cells Yq 28)) w3.heap.size Yq 28):=hJ (BIs.new _ _ _);have K_s:Hid ((qdc colr w3.heap.size 8) w3.heap.size=8):=hJ qcd;have HBr:Hid (w.heap.size≤w3.heap.size):=hJ C.out.Bsz;replace BL:=hJ (BL.out.trans ST.out.below);replace C:=hJ (C.out.keepB ST.out (by decide) (qdq C.out.z));replace K_v:=hJ ((ST.out.hue _ B_v.out.lt).trans K_v.out);replace B_v:=hJ (ST.out.bis B_v.out (by rw[←ST.out.hue _ B_v.out.lt,K_v.out];decide));replace K_t:=hJ ((ST.out.hue _ B_t.out.lt).trans K_t.out);replace B_t:=hJ (ST.out.bis B_t.out (by rw[←ST.out.hue _ B_t.out.lt,K_t.out];decide));replace RC:=hJ (RC.out.keep ST.out (by decide));replace RD:=hJ (RD.out.keep ST.out (by decide));clear ST;generalize (qdc colr w3.heap.size 8)=col6 at *;generalize (w3.alloc (.cells Yq 28))=u6 at *;generalize w3.heap.size=rs at *;have Q_s:=HBr;clear HBr;clear yH;refine hK.out _ _ ⟨B_v.out.cell 0,B_v.out.cell 1,RC.out.at_ HX.out⟩ (fun yH=>?_);clear hK K;try simp only[Act.put,aP1,aP2,aP3]
   refine E_r 11 none fun K hK=>?_;obtain⟨y0,y1,y2,y3,y4,y5,y6,y7,y8⟩:=qbU B_s.out;obtain⟨z0,z1,z2,z3,z4,z5,z6,z7,z8⟩:=B_s.out.free9;go_simp;generalize hQ:(((((((((u6.setCell (Pq rs 0) (Jq b.self)).setCell (Pq rs 1) (.slice b.Av b.vs.length b.cv)).setCell (Pq rs 2) (Jq b.base)).setCell (Pq rs 3) (.slice b.Al b.log.length b.cl)).setCell (Pq rs 4) (Jq b.stable)).setCell (Pq rs 5) (Jq b.sent)).setCell (Pq rs 6) (.slice b.Ap b.pend.length b.cp)).setCell (Pq rs 7) (.slice b.Am b.marks.length b.cm)).setCell (Pq rs 8) (.slice b.Af b.fls.length b.cf))=u7 at *;have ST:Hid (Stp w.heap.size [8] col6 u6 col6 u7):=(by subst hQ;exact hJ (Stp.wrote qaj Q_s.out C.out.Bsz (by rw[K_s.out];decide)));have BN:Hid (BIs u7 rs b.cells 28):=(by subst hQ;exact hJ (qaO B_s.out));clear B_s;have B_s:=BN;clear BN;replace BL:=hJ (BL.out.trans ST.out.below);replace C:=hJ (C.out.keepB ST.out (by decide) (fun k hk=>C.out.z k (zL ST.out.size hk)));replace K_v:=hJ ((ST.out.hue _ B_v.out.lt).trans K_v.out);replace B_v:=hJ (ST.out.bis B_v.out (by rw[←ST.out.hue _ B_v.out.lt,K_v.out];decide));replace K_t:=hJ ((ST.out.hue _ B_t.out.lt).trans K_t.out);replace B_t:=hJ (ST.out.bis B_t.out (by rw[←ST.out.hue _ B_t.out.lt,K_t.out];decide));replace RC:=hJ (RC.out.keep ST.out (by decide));replace RD:=hJ (RD.out.keep ST.out (by decide));clear ST;clear hQ;exact qov
  ·go_simp;have ST:Hid (Stp w.heap.size [] colr u0 (qdc colr u0.heap.size 8) (u0.alloc (.cells Yq 28))):=hJ (Stp.newBox C.out.Bsz);have B_s:Hid (BIs (u0.alloc (.cells Yq 28)) u0.heap.size Yq 28):=hJ (BIs.new _ _ _);have K_s:Hid ((qdc colr u0.heap.size 8) u0.heap.size=8):=hJ qcd;have HBr:Hid (w.heap.size≤u0.heap.size):=hJ C.out.Bsz;replace BL:=hJ (BL.out.trans ST.out.below);replace C:=hJ (C.out.keepB ST.out (by decide) (qdq C.out.z));replace K_v:=hJ ((ST.out.hue _ B_v.out.lt).trans K_v.out);replace B_v:=hJ (ST.out.bis B_v.out (by rw[←ST.out.hue _ B_v.out.lt,K_v.out];decide));replace K_t:=hJ ((ST.out.hue _ B_t.out.lt).trans K_t.out);replace B_t:=hJ (ST.out.bis B_t.out (by rw[←ST.out.hue _ B_t.out.lt,K_t.out];decide));replace RC:=hJ (RC.out.keep ST.out (by decide));clear ST;generalize (qdc colr u0.heap.size 8)=col6 at *;generalize (u0.alloc (.cells Yq 28))=u6 at *;generalize u0.heap.size=rs at *;have Q_s:=HBr;clear HBr;clear yH;refine hK.out _ _ ⟨B_v.out.cell 0,B_v.out.cell 1,RC.out.at_ HX.out⟩ (fun yH=>?_);clear hK K;try simp only[Act.put,aP1,aP2,aP3]
   refine E_r 6 (some 24) fun K hK=>?_;go_simp;go_at_call 22;refine(qdm n _ c xs x _ RC.out.1 (by omega)).mono ?_;rintro en w3 ⟨b,rfl,hst,hrd,hft,hx,hnw⟩;have HST:=hJ hst;have RD:Hid (RdC w3 col6 b):=hJ (qgZ hrd hft hnw C.out.z);clear hst hrd hft hnw;unfold BM.cells;have ST:=hJ (Stp.ext' (B:=w.heap.size) (cs:=[]) (col:=col6) C.out.Bsz hx);replace BL:=hJ (BL.out.trans ST.out.below);replace C:=hJ (C.out.keepB ST.out (by decide) (fun k hk=>C.out.z k (zL (hx).size hk)));replace K_v:=hJ ((ST.out.hue _ B_v.out.lt).trans K_v.out);replace B_v:=hJ (ST.out.bis B_v.out (by rw[←ST.out.hue _ B_v.out.lt,K_v.out];decide));replace K_t:=hJ ((ST.out.hue _ B_t.out.lt).trans K_t.out);replace B_t:=hJ (ST.out.bis B_t.out (by rw[←ST.out.hue _ B_t.out.lt,K_t.out];decide));replace K_s:=hJ ((ST.out.hue _ B_s.out.lt).trans K_s.out);replace B_s:=hJ (ST.out.bis B_s.out (by rw[←ST.out.hue _ B_s.out.lt,K_s.out];decide));replace RC:=hJ (RC.out.keep ST.out (by decide));clear ST;clear hx;clear yH;refine hK.out _ _ ⟨B_v.out.cell 0,B_v.out.cell 1,RC.out.at_ HX.out⟩ (fun yH=>?_);clear hK K;try simp only[Act.put,aP1,aP2,aP3]
   refine E_t 7 17 ?_;refine E_t2 8 25 ?_;refine E_r 11 none fun K hK=>?_;obtain⟨y0,y1,y2,y3,y4,y5,y6,y7,y8⟩:=qbU B_s.out;obtain⟨z0,z1,z2,z3,z4,z5,z6,z7,z8⟩:=B_s.out.free9;go_simp;generalize hQ:(((((((((w3.setCell (Pq rs 0) (Jq b.self)).setCell (Pq rs 1) (.slice b.Av b.vs.length b.cv)).setCell (Pq rs 2) (Jq b.base)).setCell (Pq rs 3) (.slice b.Al b.log.length b.cl)).setCell (Pq rs 4) (Jq b.stable)).setCell (Pq rs 5) (Jq b.sent)).setCell (Pq rs 6) (.slice b.Ap b.pend.length b.cp)).setCell (Pq rs 7) (.slice b.Am b.marks.length b.cm)).setCell (Pq rs 8) (.slice b.Af b.fls.length b.cf))=u7 at *;have ST:Hid (Stp w.heap.size [8] col6 w3 col6 u7):=(by subst hQ;exact hJ (Stp.wrote qaj Q_s.out C.out.Bsz (by rw[K_s.out];decide)));have BN:Hid (BIs u7 rs b.cells 28):=(by subst hQ;exact hJ (qaO B_s.out));clear B_s;have B_s:=BN;clear BN;replace BL:=hJ (BL.out.trans ST.out.below);replace C:=hJ (C.out.keepB ST.out (by decide) (fun k hk=>C.out.z k (zL ST.out.size hk)));replace K_v:=hJ ((ST.out.hue _ B_v.out.lt).trans K_v.out);replace B_v:=hJ (ST.out.bis B_v.out (by rw[←ST.out.hue _ B_v.out.lt,K_v.out];decide));replace K_t:=hJ ((ST.out.hue _ B_t.out.lt).trans K_t.out);replace B_t:=hJ (ST.out.bis B_t.out (by rw[←ST.out.hue _ B_t.out.lt,K_t.out];decide));replace RC:=hJ (RC.out.keep ST.out (by decide));replace RD:=hJ (RD.out.keep ST.out (by decide));clear ST;clear hQ;exact qov
end Go.Proofs.YtponbabbabnaeaaGreat
namespace Go.Proofs.YtponbabbabnaeaaGreat
open Go.ChangeShapes Go.WideShapes Go.ChangeAt Go.RowKit
theorem own:ownKnob Tryz.prog.godebug=none:=by kernel_rfl
theorem qlq:laidOutB Tryz.prog=true:=by kernel_rfl
theorem qih{w:World}{a:Addr}{k:IntKind}{zs:List Int}{len:Nat}(hlen:len≤zs.length)(h:∀i,i<zs.length→w.cell? (a.add i)=some (.int k (zs.getD i 0))) :
  Row w (some a) ((zs.take len).map (Value.int k)):=by
 intro hne;have hp:0<zs.length:=by
  rcases Nat.eq_zero_or_pos zs.length with h0|h0
  ·have:zs=[]:=List.eq_nil_of_length_eq_zero h0;subst this;simp at hne
  ·exact h0
 obtain⟨b,off,rfl,hc⟩:=ints_at h hp;refine⟨b,off,rfl,?_,fun j v hj=>?_⟩
 ·have:=World.block_lt_of_cell? w _ (hc 0 hp);exact this
 ·simp only[zM,Option.map_eq_some_iff] at hj;obtain⟨x,hx,rfl⟩:=hj;simp only[List.getElem?_take] at hx;split at hx
  ·have hj':=(zZ hx).1;rw[hc j hj'];simp[List.getD,hx]
  ·cases hx
section
variable {H:Type} {enc:TypeId×Value→H} {w:World} {base:Nat} {spare:Nat→Bool} {held:Bool}
theorem qnu{fuel:Nat}{cs:List Value}{x:DataW H×List MemPlace}(h:DataW.trod enc Tryz.prog w base spare held fuel 44 cs=some x) :
  ∃A c,∃xs:List Int,cs=[.slice A xs.length c]∧xs.length≤c∧c≤maxLen∧Row w A (qaq xs)∧∀x∈xs,I64 x:=by
 rcases open_ints Tryz.underlying44 Tryz.underlying3 (by kernel_rfl) h with ⟨hcs,_⟩|⟨a,len,cap,zs,hcs,_,hl,hm,hz,_,hcell,hwz⟩
 ·exact⟨none,0,[],hcs,zR _,zO _,Row.nil _ _,fun x hx=>by simp at hx⟩
 ·have hlz:len≤zs.length:=by rw[hz];split<;>omega
  refine⟨some a,cap,zs.take len,by rw[hcs,zT,Nat.min_eq_left hlz],by rw[zT];omega,hm,qih hlz hcell,fun x hx=>?_⟩;have:=bounds_i64 (hwz x (List.mem_of_mem_take hx));exact this
theorem qkT{fuel:Nat}{cs:List Value}{x:DataW H×List MemPlace}(h:DataW.trod enc Tryz.prog w base spare held fuel 29 cs=some x) :
  ∃A c,∃bs:List UInt8,cs=[.slice A bs.length c]∧bs.length≤c∧c≤maxLen∧Row w A (qac bs):=by
 rcases open_ints Tryz.underlying29 Tryz.underlying5 (by kernel_rfl) h with ⟨hcs,_⟩|⟨a,len,cap,zs,hcs,_,hl,hm,hz,_,hcell,hwz⟩
 ·exact⟨none,0,[],hcs,zR _,zO _,Row.nil _ _⟩
 ·have hlz:len≤zs.length:=by rw[hz];split<;>omega
  have hb:qac ((zs.take len).map fun z=>UInt8.ofNat z.toNat)=(zs.take len).map (Value.int .u8):=by
   unfold qac;rw[List.map_map];refine List.map_congr_left fun z hz'=>?_;have hb:=bounds_u8 (hwz z (List.mem_of_mem_take hz'));simp only[Function.comp,UInt8.toNat_ofNat'];congr 1;omega
  refine⟨some a,cap,(zs.take len).map fun z=>UInt8.ofNat z.toNat,by rw[hcs,zP,zT,Nat.min_eq_left hlz],by rw[zP,zT];omega,hm,?_⟩;rw[hb];exact qih hlz hcell
theorem qn1{fuel:Nat}{cs:List Value}{x:DataW H×List MemPlace}(h:DataW.trod enc Tryz.prog w base spare held fuel 3 cs=some x):∃n,cs=[Jq n]∧I64 n:=by
 obtain⟨n,h1,_,h3⟩:=DataW.trod_int Tryz.underlying3 h;exact⟨n,h1,bounds_i64 h3⟩
theorem qqY{r:Reach}{b0:Nat}{v:Value}{d:DataW H}{p:List MemPlace}(hv:Value.okWide Tryz.prog w r b0 29 v)(h:DataW.Trod enc Tryz.prog w base spare held 29 v d p) :
  ∃A c,∃bs:List UInt8,v=.slice A bs.length c∧bs.length≤c∧c≤maxLen∧Row w A (qac bs):=by
 obtain⟨a,len,cap,rfl⟩:=okWide_slice Tryz.underlying29 hv;obtain⟨fuel,hf⟩:=h;obtain⟨A,c,xs,hcs,hr⟩:=qkT hf;simp[Value.cells] at hcs;obtain⟨rfl,rfl,rfl⟩:=hcs;exact⟨_,_,xs,rfl,hr⟩
theorem qsu{r:Reach}{b0:Nat}{v:Value}{d:DataW H}{p:List MemPlace}(hv:Value.okWide Tryz.prog w r b0 46 v)(h:DataW.Trod enc Tryz.prog w base spare held 46 v d p) :
  ∃n A c,∃xs:List Int,v=.agg #[Jq n,.slice A xs.length c]∧I64 n∧xs.length≤c∧c≤maxLen∧Row w A (qaq xs)∧∀x∈xs,I64 x:=by
 obtain⟨v0,v1,y0,y1,m,rfl,_,_,h0,h1⟩:=Joins.open_agg2 Tryz.underlying46 (by kernel_rfl) (by kernel_rfl) hv h;obtain⟨n,hn,hi⟩:=qn1 h0;obtain⟨A,c,xs,hcs,hr⟩:=qnu h1;simp at hn hcs;subst hn hcs;exact⟨n,A,c,xs,rfl,hi,hr⟩
end
end Go.Proofs.YtponbabbabnaeaaGreat
namespace Go.Proofs.YtponbabbabnaeaaGreat
open Go.RowKit
end Go.Proofs.YtponbabbabnaeaaGreat
namespace Go.Proofs.YtponbabbabnaeaaGreat
open Go.ChangeShapes Go.WideShapes Go.ChangeAt Go.RowKit
section
variable {H:Type} {enc:TypeId×Value→H} {w:World} {base:Nat} {spare:Nat→Bool} {held:Bool}
end
end Go.Proofs.YtponbabbabnaeaaGreat
namespace Go.Proofs.YtponbabbabnaeaaGreat
open Go.ChangeShapes Go.WideShapes Go.ChangeAt Go.RowKit
section
variable {H:Type} {enc:TypeId×Value→H} {w:World} {base:Nat} {spare:Nat→Bool} {held:Bool}
end
end Go.Proofs.YtponbabbabnaeaaGreat
namespace Go.Proofs.YtponbabbabnaeaaGreat
open Go.RowKit
section
variable {w w':World} {B p:Nat} {col:Nat→Nat} {m:WM}
theorem WS.rebox(h:WS w B col p m):WS (w.alloc (.cells m.cells 59)) B (qdc col w.heap.size 1) w.heap.size m:=by
 have k:=h.keepB (Stp.newBox (cs:=[]) (c:=1) (v:=.cells m.cells 59) h.Bsz) (by decide) (qdq h.z);exact⟨BIs.new _ _ _,qcd,h.Bsz,k.z,k.vs,k.mem,k.down,k.told,k.sent,k.fly,k.ti,k.si⟩
theorem qf6{g:Nat}{vals:Array Value}{t:TypeId}(h:BIs w g vals t)(b:Below B w w')(hg:g<B):BIs w' g vals t:=h.same (b.block g hg)
end
theorem qlh(A A':Option Addr)(c c':Nat)(xs ys:List Ent)(w:World)(h:Row w A (qaH.cells xs))(h':Row w A' (qaH.cells ys))(hn:xs.length≤1000000000) :
  Calls Tryz.prog 20 #[.slice A xs.length c,.slice A' ys.length c'] w fun e w'=>e=.returned (.bool (qe2 xs ys))∧Ext w w':=by
 have H:=hJ h;have H':=hJ h';clear h h';by_cases hl:xs.length=ys.length
 ·have HL:=hJ hl;have hb:((xs.length:Int) != (ys.length:Int))=false:=by simp[hl]
  have hle:ys.length≤xs.length:=by omega
  have hge:xs.length≤ys.length:=by omega
  clear hl;go_enter Tryz.func20,Tryz.ntmps20;go_wp2;go_loopw [5] (fun i wr=>∃k:Nat,k≤xs.length∧i=Jq k∧Hid (xs.take k=ys.take k)∧Hid (Ext w wr)) (fun i _=>xs.length - (intOf i).toNat)
  case atStart=>exact⟨0,zO _,rfl,hJ rfl,hJ (Ext.refl _)⟩
  case round=>
   obtain⟨k,hk,rfl,HT,HS⟩:=hrel;by_cases hlt:k<xs.length
   ·obtain⟨b,off,x,rfl,hb1,c0,c1,c2,c3,HX⟩:=qbO (H.out.ext HS.out) hlt;obtain⟨b',off',y,rfl,hb2,d0,d1,d2,d3,HY⟩:=qbO (H'.out.ext HS.out) (show k<ys.length by omega);have hq:=qo3 x y;unfold qkM at hq;have X1:∀n,Hid (Ext w (wr.drewN n)):=fun n=>hJ (HS.out.drewN n);by_cases he:x=y
    ·have HE:=hJ he;rw[decide_eq_true he] at hq;clear he;go_wp2;go_quiet (fail);go_wp2;go_roundw
     case rel=>exact⟨k+1,by omega,by go_num,hJ (qpE HX.out HY.out HE.out HT.out),X1 _⟩
     case measure=>simp[intOf];omega
    ·have HE:=hJ he;rw[decide_eq_false he] at hq;clear he;go_wp2;go_quiet (fail);go_wp2;go_ret;exact⟨qae (qnW HX.out HY.out HE.out).symm,(X1 _).out⟩
   ·go_wp2;go_ret;exact⟨qae (qsa hlt HL.out HT.out).symm,HS.out⟩
 ·have HE:Hid (qe2 xs ys=false):=hJ (decide_eq_false fun e=>hl (by rw[e]));have hb:((xs.length:Int) != (ys.length:Int))=true:=by simp;omega
  clear hl;go_enter Tryz.func20,Tryz.ntmps20;go_wp2;go_ret;exact⟨qae HE.out.symm,Ext.refl _⟩
theorem qk3(A A':Option Addr)(k k' c c':Nat)(xs ys:List Ent)(w:World)(h:Row w A (qaH.cells xs))(h':Row w A' (qaH.cells ys))(hk:k=xs.length)(hk':k'=ys.length)(hn:k≤1000000000) :
  Calls Tryz.prog 20 #[.slice A k c,.slice A' k' c'] w fun e w'=>e=.returned (.bool (qe2 xs ys))∧Ext w w':=by subst hk hk';exact qlh A A' c c' xs ys w h h' hn
theorem qgA{w:World}{B c:Nat}{col:Nat→Nat}{g n:Nat}{l:List TlM}{i:Nat}{t:TlM}(h:Arr tlE w B col c (.slice (some (Pq g 0)) l.length n) l)(ht:l[i]?=some t):w.cell? (Pq g i)=some (.slice t.A t.l.length t.c):=by
 have:=h.cell ht (j:=0) rfl;simpa[tlE] using this
theorem qku(m:WM)(B:Nat)(col:Nat→Nat)(p:Nat)(w:World)(h:WS w B col p m)(hl:m.told.length≤1000)(ht:∀t∈m.told,t.l.length≤100000)
  (hp:∀(i j:Nat) (t u:TlM),m.told[i]?=some t→m.told[j]?=some u→t.l.length≤u.l.length→t.l<+:u.l) :
  Calls Tryz.prog 30 #[.pointer (some (Pq p 0))] w fun e w'=>e=.returned (.bool true)∧Ext w w':=by
 obtain⟨Av,cv,vs,Am,cm,mem,Ad,cd,down,At,ct,told,As,cs,sent,Af,cf,fly⟩:=m;simp only at hp hl ht;have H:=hJ h;have HP:=hJ hp;have HT:=hJ ht;have X0:Hid (Ext w w):=hJ (Ext.refl _);clear h hp ht;by_cases hz:told.length=0
 ·have z3:=(qaE H.out).2.2.2.1;simp only[hz] at z3;go_enter Tryz.func30,Tryz.ntmps30;go_wp2;go_loopw [3,4] (fun lg i wr=>lg=Jq 0∧i=Jq 0∧wr=w) (fun _ _ _=>0)
  case atStart=>exact⟨rfl,rfl,rfl⟩
  case round=>
   obtain⟨rfl,rfl,rfl⟩:=hrel;go_wp2;go_loopw [5] (fun i wr'=>i=Jq 0∧wr'=wr) (fun _ _=>0)
   case atStart=>exact⟨rfl,rfl⟩
   case round=>
    obtain⟨rfl,rfl⟩:=hrel;go_wp2;go_ret;exact⟨rfl,X0.out⟩
 obtain⟨gt,_,hA,_,_⟩:=qny H.out.told (i:=0) (by simp only;omega);simp only at hA;subst hA;go_enter Tryz.func30,Tryz.ntmps30;go_wp2;go_loopw [3,4] (fun lg i wr=>∃k g:Nat,k≤told.length∧g<told.length∧lg=Jq g∧i=Jq k∧Hid (∀j (t u:TlM),j<k→told[j]?=some t→told[g]?=some u→t.l.length≤u.l.length)∧Hid (Ext w wr)) (fun _ i _=>told.length - (intOf i).toNat)
 case atStart=>exact⟨0,0,zO _,by omega,rfl,rfl,hJ (fun j t u hj=>by omega),X0⟩
 case round=>
  clear X0;obtain⟨k,g,hk,hg,rfl,rfl,HM,XX⟩:=hrel;have C:=hJ (H.out.ext XX.out);have z3:=(qaE C.out).2.2.2.1;simp only at z3;obtain⟨_,u,hA2,hu,cu⟩:=qny C.out.told (i:=g) (by simp only;omega);simp only[zJ,Addr.mk.injEq,and_true] at hA2 hu;subst hA2;have HU:=hJ hu;clear hu;by_cases hlt:k<told.length;rotate_left
  ·have hkk:k=told.length:=by omega
   have HX:Hid (∀j (t:TlM),told[j]?=some t→t.l<+:u.l):=hJ (fun j t hj=>HP.out j g t u hj HU.out (HM.out j t u (by have:=(zZ hj).1;omega) hj HU.out));have hut:=HT.out u (zX HU.out);subst hkk;obtain⟨wo,rfl⟩:∃x,x=wr:=⟨wr,rfl⟩;clear hlt hk HM cu;go_wp2;go_loopw [5] (fun i wr'=>∃n:Nat,n≤told.length∧i=Jq n∧Hid (Ext w wr')) (fun i _=>told.length - (intOf i).toNat)
   case atStart=>exact⟨0,zO _,rfl,XX⟩
   case round=>
    clear C XX z3;obtain⟨n,hn,rfl,XX⟩:=hrel;have C:=hJ (H.out.ext XX.out);have z3:=(qaE C.out).2.2.2.1;simp only at z3;by_cases hlt:n<told.length;rotate_left
    ·have hnn:n=told.length:=by omega
     subst hnn;go_wp2;go_ret;exact⟨rfl,XX.out⟩
    obtain⟨_,t,hA2,hti,cti⟩:=qny C.out.told (i:=n) (by simp only;omega);simp only[zJ,Addr.mk.injEq,and_true] at hA2 hti;subst hA2;have HTI:=hJ hti;clear hti;have hpx:=HX.out n t HTI.out;have hle:=hpx.length_le;have htt:=HT.out t (zX HTI.out);have HSM:Hid (qe2 t.l (u.l.take t.l.length)=true):=hJ (by unfold qe2;rw[zE];exact List.prefix_iff_eq_take.1 hpx);clear hpx;have cu:=qgA C.out.told HU.out;obtain⟨uc1,uc2⟩:t.l.length≤u.c∧u.c≤maxLen:=by obtain⟨A9,c9,hv,q1,q2,_⟩:=(C.out.ti g u HU.out).1.slice;simp only[Value.slice.injEq,true_and] at hv;obtain⟨_,rfl⟩:=hv;exact⟨by omega,q2⟩
    obtain⟨tn,htn⟩:∃x,x=t.l.length:=⟨_,rfl⟩;rw[←htn] at cti hle htt uc1;have HTN:=hJ htn;clear htn;have hsl:∀W,(Instr.slice 23 (.slice u.A u.l.length u.c) none (some (Jq (tn:Int))) none).run Tryz.prog W=.ok (.slice u.A tn u.c) W:=fun W=>qaH.slice_h u.A u.l.length u.c tn _ rfl (by omega) W;go_upto_region 10 with fail;refine E_g 25 (fun w'=>Cq w' p 3 (.slice (some (Pq gt 0)) told.length ct)∧Cq w' gt n (.slice t.A tn t.c)∧Cq w' gt g (.slice u.A u.l.length u.c)) ⟨z3,cti,cu⟩ (fun yH=>?_);have XD:Hid (Ext wr wr.drew):=hJ zW;replace XX:=hJ (XX.out.trans XD.out);replace C:=hJ (C.out.ext XD.out);clear XD;generalize wr.drew=u4 at *;refine E_t4 0 42 ?_;refine E_t4 4 46 ?_;refine E_t4 8 50 ?_;refine E_t4 12 54 ?_;refine E_t4 16 58 ?_;refine E_t2 20 62 ?_;refine E_t 22 64 ?_;refine E_r 23 (some 65) fun K hK=>?_;go_simp;go_at_call 20;refine(qk3 t.A u.A tn tn t.c u.c t.l (u.l.take t.l.length) _ (C.out.ti n t HTI.out).1.row (Elem.row_upto (C.out.ti g u HU.out).1.row _) HTN.out (by rw[zT];have:=HTN.out;omega) (by omega)).mono ?_;rintro en w5 ⟨rfl,hx⟩;rw[HSM.out];replace XX:=hJ (XX.out.trans hx);replace C:=hJ (C.out.ext hx);clear hx;clear yH;refine hK.out _ _ ⟨(qaE C.out).2.2.2.1,by have:=qgA C.out.told HTI.out;rw[←HTN.out] at this;exact this,qgA C.out.told HU.out⟩ (fun yH=>?_);clear hK K;try simp only[Act.put,aP1,aP2,aP3]
    refine E_t 24 66 ?_;refine E_e ?_;go_wp2;go_roundw
    case rel=>exact⟨n+1,by omega,by go_num,XX⟩
    case measure=>simp[intOf];omega
  obtain⟨_,t,hA2,hti,cti⟩:=qny C.out.told (i:=k) (by simp only;omega);simp only[zJ,Addr.mk.injEq,and_true] at hA2 hti;subst hA2;have HTI:=hJ hti;clear hti;have htt:=HT.out t (zX HTI.out);have hut:=HT.out u (zX HU.out);go_upto_region 5 with fail;refine E_g 17 (fun w'=>Cq w' p 3 (.slice (some (Pq gt 0)) told.length ct)∧Cq w' gt k (.slice t.A t.l.length t.c)∧Cq w' gt g (.slice u.A u.l.length u.c)) ⟨z3,cti,cu⟩ (fun yH=>?_);have XD:Hid (Ext wr wr.drew):=hJ zW;replace XX:=hJ (XX.out.trans XD.out);clear XD C;generalize wr.drew=u4 at *;refine E_t4 0 15 ?_;refine E_t4 4 19 ?_;refine E_t4 8 23 ?_;refine E_t4 12 27 ?_;refine E_t 16 31 ?_;refine E_e ?_;by_cases hgt:u.l.length<t.l.length
  ·have hgt':(u.l.length:Int)<(t.l.length:Int):=by omega
   have HM2:Hid (∀j (t' u':TlM),j<k+1→told[j]?=some t'→told[k]?=some u'→t'.l.length≤u'.l.length):=hJ (fun j t' u' hj h1 h2=>by
    rw[HTI.out] at h2;cases h2;by_cases hjk:j=k
    ·subst hjk;rw[HTI.out] at h1;cases h1;exact zR _
    ·have:=HM.out j t' u (by omega) h1 HU.out;omega)
   go_wp2;go_roundw
   case rel=>exact⟨k+1,k,by omega,hlt,rfl,by go_num,HM2,XX⟩
   case measure=>simp[intOf];omega
  have hgt':¬(u.l.length:Int)<(t.l.length:Int):=by omega
  have HM2:Hid (∀j (t' u':TlM),j<k+1→told[j]?=some t'→told[g]?=some u'→t'.l.length≤u'.l.length):=hJ (fun j t' u' hj h1 h2=>by
   rw[HU.out] at h2;cases h2;by_cases hjk:j=k
   ·subst hjk;rw[HTI.out] at h1;cases h1;omega
   ·exact HM.out j t' u (by omega) h1 HU.out)
  go_wp2;go_roundw
  case rel=>exact⟨k+1,g,by omega,hg,rfl,by go_num,HM2,XX⟩
  case measure=>simp[intOf];omega
theorem qpt{s:Nat}(h:s<4294967296)(h1:s % 2=1):bits .xor .u32 ((s:Int) / 2) 3988292384=((qiy s:Nat):Int):=by
 have h3:((s:Int) / 2)=((s / 2:Nat):Int):=by omega
 have:=u32_xor_nat (s / 2) 3988292384 (by omega) (by decide);rw[h3];unfold qiy;rw[h1,Nat.mul_one];exact this
theorem qof{s:Nat}(h1:¬s % 2=1):((s:Int) / 2)=((qiy s:Nat):Int):=by
 unfold qiy;have:s % 2=0:=by omega
 rw[this,Nat.mul_zero,Nat.xor_zero];omega
theorem qul{s:Nat}(h:s<4294967296):bits .and .u32 (s:Int) 1=((s % 2:Nat):Int):=by
 have:=u32_and_nat s 1 h (by decide);rw[Nat.and_one_is_mod] at this;exact this
theorem qjz(A:Option Addr)(c:Nat)(bs:List UInt8)(w:World)(h:Row w A (qac bs))(hl:bs.length≤1000000000) :
  Calls Tryz.prog 189 #[.slice A bs.length c] w fun e w'=>e=.returned (.int .u32 (qgM bs:Int))∧w=w':=by
 have H:=hJ h;clear h;go_enter Tryz.func189,Tryz.ntmps189;go_wp2;go_loopw [3,4] (fun s i wr=>∃(k n:Nat),k≤bs.length∧i=Jq (k:Int)∧s=.int .u32 (n:Int)∧Hid (n=(bs.take k).foldl qsZ 4294967295)∧w=wr) (fun _ i _=>bs.length - (intOf i).toNat)
 case atStart=>exact⟨0,4294967295,zO _,rfl,rfl,hJ rfl,rfl⟩
 case round=>
  obtain⟨k,n,hk,rfl,rfl,HN,rfl⟩:=hrel;have hn:Hid (n<4294967296):=hJ (by rw[HN.out];exact qiE _ _ (by decide));by_cases hlt:k<bs.length
  ·obtain⟨b,off,x,rfl,c0,HX⟩:=H.out.byte hlt;have hcb:=qmt x hn.out;have hfin:Hid (∀m j:Nat,m=qpg j (n ^^^ x.toNat)→j≤8→¬j<8→m=(bs.take (k+1)).foldl qsZ 4294967295):=hJ (by
    intro m j h1 h2 h3;have h8:j=8:=by omega
    subst h8;rw[h1,←qlg,HN.out,List.take_add_one,HX.out];simp)
   go_wp2;go_loopw [3,5] (fun s i wr=>∃(j m:Nat),j≤8∧i=Jq (j:Int)∧s=.int .u32 (m:Int)∧Hid (m=qpg j (n ^^^ x.toNat))∧w=wr) (fun _ i _=>8 - (intOf i).toNat)
   case atStart=>exact⟨0,n ^^^ x.toNat,zO _,rfl,rfl,hJ rfl,by first|trivial|rfl⟩
   case round=>
    obtain⟨j,m,hj,rfl,rfl,HM,rfl⟩:=hrel;have hm:Hid (m<4294967296):=hJ (by rw[HM.out];exact qle _ _ (qfs x hn.out));by_cases hj8:j<8
    ·have hao:=qul hm.out;by_cases ho:m % 2=1
     ·have hs1:=qpt hm.out ho;have hdd:(((m % 2:Nat):Int) == 1)=true:=by rw[ho];rfl
      go_wp2;go_roundw
      case rel=>exact⟨j+1,qiy m,by omega,by go_num,by first|rfl|(rw[hs1]),hJ (by rw[qhx,HM.out]),by first|trivial|rfl⟩
      case measure=>simp[intOf];omega
     ·have hs0:=qof ho;have hdd:(((m % 2:Nat):Int) == 1)=false:=by simp;omega
      go_wp2;go_roundw
      case rel=>exact⟨j+1,qiy m,by omega,by go_num,by first|rfl|(rw[hs0]),hJ (by rw[qhx,HM.out]),by first|trivial|rfl⟩
      case measure=>simp[intOf];omega
    ·go_wp2;go_roundw
     case rel=>exact⟨k+1,m,by omega,by go_num,rfl,hJ (hfin.out m j HM.out hj hj8),by first|trivial|rfl⟩
     case measure=>simp[intOf];omega
  ·have hkl:k=bs.length:=by omega
   subst hkl;go_wp2;go_ret;refine⟨?_,rfl⟩;have hx:=u32_xor_nat 4294967295 n (by decide) hn.out;have hc:qgM bs=4294967295 ^^^ n:=by unfold qgM;rw[HN.out,List.take_length]
   rw[hc,←hx];rfl
theorem qsD(v:Nat)(w:World):Own (w.alloc (.cells #[.int .u8 ((v:Int) % 256),.int .u8 ((v:Int) / 256 % 256),.int .u8 ((v:Int) / 65536 % 256),.int .u8 ((v:Int) / 16777216 % 256)] 5)) w.heap.size 5 (.slice (some (Pq w.heap.size 0)) 4 4) (qac (le4 v)):=by
 have e:qac (le4 v)=[.int .u8 ((v:Int) % 256),.int .u8 ((v:Int) / 256 % 256),.int .u8 ((v:Int) / 65536 % 256),.int .u8 ((v:Int) / 16777216 % 256)]:=by
  simp only[qac,le4,List.map_cons,List.map_nil,UInt8.toNat_ofNat'];rw[show ((v % 2 ^ 8:Nat):Int)=(v:Int) % 256 by omega,show ((v / 256 % 2 ^ 8:Nat):Int)=(v:Int) / 256 % 256 by omega,show ((v / 65536 % 2 ^ 8:Nat):Int)=(v:Int) / 65536 % 256 by omega,show ((v / 16777216 % 2 ^ 8:Nat):Int)=(v:Int) / 16777216 % 256 by omega]
 rw[e];exact⟨rfl,.inr ⟨w.heap.size,4,_,rfl,zR _,(by show (w.heap.push _)[w.heap.size]?=_;simp;rfl),zR _,by unfold maxLen;decide,rfl,rfl⟩⟩
theorem qqk(n:Nat)(w:World):Calls Tryz.prog 188 #[.int .u32 (n:Int)] w (GivesB w (le4 n)):=by
 go_enter Tryz.func188,Tryz.ntmps188;go_wp2;go_ret;exact qdz (qsD n w) (Ext.new _ _)
theorem qlc(p:List UInt8)(w:World)(hp:p.length≤100000000):Calls Tryz.prog 133 #[.string (qaF p)] w (GivesB w (qeH p)):=by
 have hn:Hid (p.length<U64):=hJ (by unfold U64;omega);have HL:=hJ (qaz hn.out);have hsz:=qbE p;have hw:IntKind.u64.wrap (p.length:Int)=(p.length:Int):=qcU hn.out;go_enter Tryz.func133,Tryz.ntmps133;go_wp2_with fail;refine(qb1 p.length w hn).mono ?_;rintro e w1 ⟨A1,c1,rfl,hc1,hm1,ho1,hx1⟩;have HO1:=hJ ho1;have X1:=hJ hx1;clear ho1 hx1;have hl1:(qa4 p.length).length≤11:=HL.out;obtain⟨i0,hi,hz0,hz1,hz2⟩:=info_parts qcY;go_wp2_with (first
  | (at_builtin;refine Go.Lib.wpList_append_own_string w1 rfl (.tmp 6) (.tmp 7) 29 9 rfl w.heap.size 5 i0 Tryz.underlying29 Tryz.underlying9 hi hz0 hz1 hz2 _ (qa4 p.length).length (qac (qa4 p.length)) (by rfl) (by have:=HO1.out;unfold Own at this;rw[qay] at this;exact this) (qaF p) (by rfl) (by rw[qbE];unfold maxLen;omega) (by rw[qbE];omega) X1.out.size ?_;intro v2 w2 ho2 hg2 _))
 go_ret;refine qdz ?_ (Grew.below X1.out hg2 X1.out.size (fun k hk=>(HO1.out.lt k hk).1));have hb:qac (qeH p)=qac (qa4 p.length)++Go.Lib.strCells (qaF p):=by rw[qf4,←qbW];rfl
 unfold Own;rw[hb,zA,qay,Go.Lib.strCells_length];exact ho2
theorem qdV{ops:Array Oper}{rest:List Oper}{o:Oper}{a:Act}{Q:Exit→Act→World→Prop}(hgd:o.guard=none)(s x:Operand)
  (ho:o.op=.call {callee:=.builtin .append,args:=#[s,x],argTypes:=#[29,29]})
  (W w0:World) (A:Option Addr) (n c:Nat) (xs:List UInt8) (hs:a.eval s=.slice A n c) (A2:Option Addr) (m c2:Nat) (ys:List UInt8) (hx:a.eval x=.slice A2 m c2) (hm:m=ys.length) (hr:Hid (Row W A2 (qac ys)))
  (hown:Hid (Own W w0.heap.size 5 (.slice A n c) (qac xs))) (hl:xs.length+m<2000000000) (he:Hid (Ext w0 W))
  (h:∀A' c' w',(xs++ys).length≤c'→c'≤maxLen→Hid (Own w' w0.heap.size 5 (.slice A' (xs++ys).length c') (qac (xs++ys)))→Hid (Ext w0 w')→wpList Tryz.prog ops Q rest (a.put o.dst (.slice A' (xs++ys).length c')) w') :
  wpList Tryz.prog ops Q (o::rest) a W:=by
 refine qdP hgd s x _ 5 _ 1 ho Tryz.underlying29 qcY rfl (by decide) W w0.heap.size _ _ hs A2 m c2 (qac ys) hx (by rw[hm,qay]) hr.out (qec _) hown.out (by rw[qay];exact hl) he.out.size ?_;intro v w' ho' hg _;rw[←qbW] at ho';obtain⟨A',c',h1,h2,h3,_⟩:=ho'.slice;rw[qay] at h1 h2;subst h1;exact h A' c' w' h2 h3 (hJ ho') (hJ (hg.below he.out he.out.size (fun k hk=>(hown.out.lt k hk).1)))
theorem qtT(k:Nat)(hk:k≤255)(w:World):Own (w.alloc (.cells #[.int .u8 65,.int .u8 71,.int .u8 (k:Int)] 5)) w.heap.size 5 (.slice (some (Pq w.heap.size 0)) 3 3) (qac [65,71,UInt8.ofNat k]):=by
 have e:qac [65,71,UInt8.ofNat k]=[.int .u8 65,.int .u8 71,.int .u8 (k:Int)]:=by
  simp only[qac,List.map_cons,List.map_nil,UInt8.toNat_ofNat'];rw[show ((k % 2 ^ 8:Nat):Int)=(k:Int) by omega];rfl
 rw[e];exact⟨rfl,.inr ⟨w.heap.size,3,_,rfl,zR _,(by show (w.heap.push _)[w.heap.size]?=_;simp;rfl),zR _,by unfold maxLen;decide,rfl,rfl⟩⟩
theorem qpd(k:Nat)(A:Option Addr)(c:Nat)(body:List UInt8)(w:World)(h:Row w A (qac body))(hl:body.length≤100000000)(hk:1≤k∧k≤255) :
  Calls Tryz.prog 165 #[Jq (k:Int),.slice A body.length c] w fun e w'=>∃err,qr8 w (qa3 k body) err e w':=by
 have H:=hJ h;clear h;by_cases hb:body.length≤16777216
 ·have HF:Hid (qa3 k body=qeJ k body++le4 (qgM (qeJ k body))):=hJ (by unfold qa3;rw[if_pos hb]);have hn:Hid (body.length<U64):=hJ (by unfold U64;omega);have HL:=hJ (qaz hn.out);have hw:IntKind.u64.wrap (body.length:Int)=(body.length:Int):=qcU hn.out;have E0:Hid (Ext w (w.alloc (.cells #[.int .u8 65,.int .u8 71,.int .u8 (k:Int)] 5))):=hJ (Ext.new _ _);have P0:=hJ (qtT k hk.2 w);go_enter Tryz.func165,Tryz.ntmps165;go_wp2_with fail;refine(qb1 body.length _ hn).mono ?_;rintro e w1 ⟨A1,c1,rfl,hc1,hm1,ho1,hx1⟩;have X1:=hJ (E0.out.trans hx1);have P1:=hJ (P0.out.ext hx1);have R1:=hJ ho1.row;clear ho1 hx1 P0 E0;go_wp2_with (first
   | (at_builtin;refine qdV rfl (.tmp 20) (.tmp 24) rfl _ w _ 3 3 [65,71,UInt8.ofNat k] (by rfl) A1 (qa4 body.length).length c1 (qa4 body.length) (by rfl) rfl R1 P1 (by have:=HL.out;simp;omega) X1 ?_;intro A2 c2 w2 h21 h22 HO2 X2;have R2:=hJ (H.out.ext X2.out))
   | (at_builtin;refine qdV rfl (.tmp 26) (.tmp 27) rfl _ w A2 _ c2 ([65,71,UInt8.ofNat k]++qa4 body.length) (by rfl) A body.length c body (by rfl) rfl R2 HO2 (by have:=HL.out;simp;omega) X2 ?_;intro A3 c3 w3 h31 h32 HO3 X3;rw[show [65,71,UInt8.ofNat k]++qa4 body.length++body=qeJ k body from rfl] at h31 HO3⊢;have hpl:(qeJ k body).length≤100000100:=(by have:=HL.out;unfold qeJ;simp;omega);have HR3:=hJ HO3.out.row)
   | fail)
  refine(qjz A3 c3 (qeJ k body) w3 HR3.out (by omega)).mono ?_;rintro e w4 ⟨rfl,rfl⟩;go_wp2_with fail;refine(qqk (qgM (qeJ k body)) w3).mono ?_;rintro e w5 ⟨A5,c5,rfl,hc5,hm5,ho5,hx5⟩;have X5:=hJ (X3.out.trans hx5);have HO5:=hJ (HO3.out.ext hx5);have R5:=hJ ho5.row;clear ho5 hx5;go_wp2_with (first
   | (at_builtin;refine qdV rfl (.tmp 29) (.tmp 32) rfl _ w A3 _ c3 (qeJ k body) (by rfl) A5 _ c5 (le4 (qgM (qeJ k body))) (by rfl) rfl R5 HO5 (by simp[le4];omega) X5 ?_;intro A6 c6 w6 h61 h62 HO6 X6;rw[←HF.out] at h61 HO6⊢)
   | fail)
  go_ret2
  exact⟨0,A6,c6,rfl,h61,h62,HO6.out,X6.out⟩
 ·have HF:Hid (qa3 k body=[]):=hJ (by unfold qa3;rw[if_neg hb]);go_enter Tryz.func165,Tryz.ntmps165;go_wp2;go_ret2
  rw[HF.out];exact⟨1,none,0,rfl,zR _,zO _,Own.nil _ _ _,Ext.refl _⟩
theorem qiN(k:Nat)(s:Int)(A:Option Addr)(c:Nat)(body:List UInt8)(w:World)(h:Row w A (qac body))(hl:body.length≤90000000)(hk:1≤k∧k≤255) :
  Calls Tryz.prog 106 #[Jq (k:Int),Jq s,.slice A body.length c] w (GivesB w (qa3 k (qav [s]++body))):=by
 have H:=hJ h;clear h;have hui:=qgT s;have hn:Hid (uN s<U64):=hJ (qjE s);have HL:=hJ (qaz hn.out);have hnum:qav [s]=qa4 (uN s):=by simp[qav]
 rw[hnum];clear hnum;go_enter Tryz.func106,Tryz.ntmps106;go_wp2_with fail;rw[←hui];refine(qb1 (uN s) _ hn).mono ?_;rintro e w1 ⟨A1,c1,rfl,hc1,hm1,ho1,hx1⟩;have HO1:=hJ ho1;have X1:=hJ hx1;have R1:=hJ (H.out.ext hx1);clear ho1 hx1 hui;go_wp2_with (first
  | (at_builtin;refine qdV rfl (.tmp 13) (.tmp 14) rfl _ w A1 _ c1 (qa4 (uN s)) (by rfl) A body.length c body (by rfl) rfl R1 HO1 (by have:=HL.out;omega) X1 ?_;intro A2 c2 w2 h21 h22 HO2 X2;have R2:=hJ HO2.out.row;have hl2:(qa4 (uN s)++body).length≤100000000:=(by have:=HL.out;simp;omega);generalize qa4 (uN s)++body=B2 at *)
  | fail)
 refine(qpd k A2 c2 B2 w2 R2.out hl2 hk).mono ?_;rintro e w3 ⟨err,A3,c3,rfl,h31,h32,ho3,hx3⟩;have X3:=hJ (X2.out.trans hx3);have HO3:=hJ (ho3.base (B':=w.heap.size) X2.out.size);clear ho3 hx3;go_wp2;go_ret;exact⟨A3,c3,rfl,h31,h32,HO3.out,X3.out⟩
theorem qjn(s n:Int)(w:World):Calls Tryz.prog 37 #[Jq s,Jq n] w (GivesB w (qa3 13 (qav [s,n]))):=by
 have hui:=qgT n;have hn:Hid (uN n<U64):=hJ (qjE n);have HL:=hJ (qaz hn.out);have hnum:qav [s,n]=qav [s]++qa4 (uN n):=by simp[qav]
 rw[hnum];clear hnum;go_enter Tryz.func37,Tryz.ntmps37;go_wp2_with fail;rw[←hui];refine(qb1 (uN n) _ hn).mono ?_;rintro e w1 ⟨A1,c1,rfl,hc1,hm1,ho1,hx1⟩;have R1:=hJ ho1.row;have X1:=hJ hx1;clear ho1 hx1 hui;go_wp2_with fail;refine(qiN 13 s A1 c1 (qa4 (uN n)) w1 R1.out (by have:=HL.out;omega) (by omega)).mono ?_;rintro e w2 ⟨A2,c2,rfl,h21,h22,ho2,hx2⟩;have X2:=hJ (X1.out.trans hx2);have HO2:=hJ (ho2.base (B':=w.heap.size) X1.out.size);clear ho2 hx2;go_wp2;go_ret;exact⟨A2,c2,rfl,h21,h22,HO2.out,X2.out⟩
theorem qlz(A:Option Addr)(c:Nat)(l:List Ent)(w:World)(h:Row w A (qaH.cells l))(hn:l.length≤2000)(hp:∀e∈l,e.p.length≤6000) :
  Calls Tryz.prog 107 #[.slice A l.length c] w (GivesB w (qbe l)):=by
 have H:=hJ h;have HP:=hJ hp;clear h hp;have hw:IntKind.u64.wrap (l.length:Int)=(l.length:Int):=qcU (by unfold U64;omega);have hln:Hid (l.length<U64):=hJ (by unfold U64;omega);have HL:=hJ (qaz hln.out);have HS:Hid (qbe l=qa4 l.length++(l.take l.length).flatMap qhL):=hJ (by
  have h1:uN (l.length:Int)=l.length:=by unfold uN;omega
  unfold qbe;rw[List.take_length];simp[qav,h1])
 go_enter Tryz.func107,Tryz.ntmps107;go_wp2_with fail;refine(qb1 l.length _ hln).mono ?_;rintro e w1 ⟨A1,c1,rfl,hc1,hm1,ho1,hx1⟩;have HO1:=hJ ho1;have X1:=hJ hx1;clear ho1 hx1;go_wp2;go_loopw [3,4] (fun v i wr=>∃(k:Nat) (A':Option Addr) (c':Nat) (S:List UInt8),k≤l.length∧i=Jq k∧v=.slice A' S.length c'∧S.length≤10+6044*k+1∧Hid (S=qa4 l.length++(l.take k).flatMap qhL)∧S.length≤c'∧c'≤maxLen∧Hid (Own wr w.heap.size 5 (.slice A' S.length c') (qac S))∧Hid (Ext w wr)) (fun _ i _=>l.length - (intOf i).toNat)
 case atStart=>exact⟨0,A1,c1,qa4 l.length,zO _,rfl,rfl,by have:=HL.out;omega,hJ (by simp),hc1,hm1,HO1,X1⟩
 case round=>
  obtain⟨k,A',c',S,hk,rfl,rfl,hS,HE,h1,h2,HO,HX⟩:=hrel;by_cases hlt:k<l.length
  ·obtain⟨b,off,e,rfl,hb,k0,k1,k2,k3,HG⟩:=qbO (H.out.ext HX.out) hlt;have hb':=hJ hb;have hep:e.p.length≤6000:=HP.out e (zX HG.out);have hu0:=qgT e.v;have hu1:=qgT e.o;have hu2:=qgT e.q;have n0:Hid (uN e.v<U64):=hJ (qjE _);have n1:Hid (uN e.o<U64):=hJ (qjE _);have n2:Hid (uN e.q<U64):=hJ (qjE _);have L0:=hJ (qaz n0.out);have L1:=hJ (qaz n1.out);have L2:=hJ (qaz n2.out);have HSn:Hid (S++qa4 (uN e.v)++qa4 (uN e.o)++qa4 (uN e.q)++qeH e.p=qa4 l.length++(l.take (k+1)).flatMap qhL):=hJ (by
    rw[qjX HG.out,HE.out];simp[qhL,qav])
   have hfl:(S++qa4 (uN e.v)++qa4 (uN e.o)++qa4 (uN e.q)++qeH e.p).length≤10+6044*(k+1)+1:=by
    have a1:=ql5 (e:=e) hep (by omega);have a2:(S++qa4 (uN e.v)++qa4 (uN e.o)++qa4 (uN e.q)++qeH e.p).length=S.length+(qhL e).length:=by simp[qhL,qav]<;>omega
    omega
   go_wp2_with fail;rw[←hu0];refine(qb1 (uN e.v) _ n0).mono ?_;rintro e1 w2 ⟨A2,c2,rfl,hc2,hm2,ho2,hx2⟩;have X2:=hJ (HX.out.trans hx2);have P2:=hJ (HO.out.ext hx2);have R2:=hJ ho2.row;have j0:=X2;clear ho2 hx2 hu0 hb k0 k1 k2 k3;obtain⟨b',off',e',hA2,hb2,k0,k1,k2,k3,HG2⟩:=qbO (H.out.ext X2.out) hlt;cases hA2;obtain rfl:e'=e:=by have:=HG.out;rw[HG2.out] at this;exact Option.some.inj this
   go_wp2_with (first
    | (at_builtin;refine qdV rfl (.tmp 15) (.tmp 22) rfl _ w A' _ c' S (by rfl) A2 _ c2 (qa4 (uN e'.v)) (by rfl) rfl R2 P2 (by have:=L0.out;omega) X2 ?_;intro A3 c3 w3 h31 h32 HO3 X3;clear k0 k1 k2 k3 hb2 HG2;obtain⟨b3,off3,e3,hA3,hb3,k0,k1,k2,k3,HG3⟩:=qbO (H.out.ext X3.out) hlt;cases hA3;obtain rfl:e3=e':=(by have:=HG.out;rw[HG3.out] at this;exact Option.some.inj this);have s3:(S++qa4 (uN e3.v)).length≤20000000:=(by have:=L0.out;simp;omega);generalize hS3:S++qa4 (uN e3.v)=S3 at *)
    | fail)
   rw[←hu1];refine(qb1 (uN e3.o) _ n1).mono ?_;rintro e1 w4 ⟨A4,c4,rfl,hc4,hm4,ho4,hx4⟩;have X4:=hJ (X3.out.trans hx4);have P4:=hJ (HO3.out.ext hx4);have R4:=hJ ho4.row;clear ho4 hx4 hu1 hb3 k0 k1 k2 k3;obtain⟨b4,off4,e4,hA4,hb4,k0,k1,k2,k3,HG4⟩:=qbO (H.out.ext X4.out) hlt;cases hA4;obtain rfl:e4=e3:=by have:=HG.out;rw[HG4.out] at this;exact Option.some.inj this
   go_wp2_with (first
    | (at_builtin;refine qdV rfl (.tmp 24) (.tmp 31) rfl _ w A3 _ c3 S3 (by rfl) A4 _ c4 (qa4 (uN e4.o)) (by rfl) rfl R4 P4 (by have:=L1.out;omega) X4 ?_;intro A5 c5 w5 h51 h52 HO5 X5;clear k0 k1 k2 k3 hb4 HG4;obtain⟨b5,off5,e5,hA5,hb5,k0,k1,k2,k3,HG5⟩:=qbO (H.out.ext X5.out) hlt;cases hA5;obtain rfl:e5=e4:=(by have:=HG.out;rw[HG5.out] at this;exact Option.some.inj this);have s5:(S3++qa4 (uN e5.o)).length≤20000100:=(by have:=L1.out;simp;omega);generalize hS5:S3++qa4 (uN e5.o)=S5 at *)
    | fail)
   rw[←hu2];refine(qb1 (uN e5.q) _ n2).mono ?_;rintro e1 w6 ⟨A6,c6,rfl,hc6,hm6,ho6,hx6⟩;have X6:=hJ (X5.out.trans hx6);have P6:=hJ (HO5.out.ext hx6);have R6:=hJ ho6.row;clear ho6 hx6 hu2 hb5 k0 k1 k2 k3;obtain⟨b6,off6,e6,hA6,hb6,k0,k1,k2,k3,HG6⟩:=qbO (H.out.ext X6.out) hlt;cases hA6;obtain rfl:e6=e5:=by have:=HG.out;rw[HG6.out] at this;exact Option.some.inj this
   go_wp2_with (first
    | (at_builtin;refine qdV rfl (.tmp 33) (.tmp 40) rfl _ w A5 _ c5 S5 (by rfl) A6 _ c6 (qa4 (uN e6.q)) (by rfl) rfl R6 P6 (by have:=L2.out;omega) X6 ?_;intro A7 c7 w7 h71 h72 HO7 X7;clear k0 k1 k2 k3 hb6 HG6;obtain⟨b7,off7,e7,hA7,hb7,k0,k1,k2,k3,HG7⟩:=qbO (H.out.ext X7.out) hlt;cases hA7;obtain rfl:e7=e6:=(by have:=HG.out;rw[HG7.out] at this;exact Option.some.inj this);have s7:(S5++qa4 (uN e7.q)).length≤20000200:=(by have:=L2.out;simp;omega);generalize hS7:S5++qa4 (uN e7.q)=S7 at *)
    | fail)
   refine(qlc e7.p _ (by omega)).mono ?_;rintro e1 w8 ⟨A8,c8,rfl,hc8,hm8,ho8,hx8⟩;have X8:=hJ (X7.out.trans hx8);have P8:=hJ (HO7.out.ext hx8);have R8:=hJ ho8.row;have s8:(qeH e7.p).length≤6100:=by have:=qaz (v:=e7.p.length) (by unfold U64;omega);unfold qeH;simp;omega
   clear ho8 hx8 k0 k1 k2 k3;go_wp2_with (first
    | (at_builtin;refine qdV rfl (.tmp 42) (.tmp 48) rfl _ w A7 _ c7 S7 (by rfl) A8 _ c8 (qeH e7.p) (by rfl) rfl R8 P8 (by omega) X8 ?_;intro A9 c9 w9 h91 h92 HO9 X9;generalize hS9:S7++qeH e7.p=S9 at *)
    | fail)
   go_roundw
   case rel=>exact⟨k+1,A9,c9,S9,by omega,by go_num,rfl,hfl,HSn,h91,h92,HO9,X9⟩
   case measure=>simp[intOf];omega
  ·have hkl:k=l.length:=by omega
   subst hkl;go_wp2;go_ret;have hES:=HE.out;rw[←HS.out] at hES;subst hES;exact⟨A',c',rfl,h1,h2,HO.out,HX.out⟩
theorem qg8(s f t:Int)(A:Option Addr)(c:Nat)(l:List Ent)(w:World)(h:Row w A (qaH.cells l))(hn:l.length≤2000)(hp:∀e∈l,e.p.length≤6000) :
  Calls Tryz.prog 36 #[Jq s,Jq f,Jq t,.slice A l.length c] w (GivesB w (qa3 12 (qav [s,f,t]++qbe l))):=by
 have H:=hJ h;have HP:=hJ hp;clear h hp;have hu0:=qgT f;have hu1:=qgT t;have n0:Hid (uN f<U64):=hJ (qjE _);have n1:Hid (uN t<U64):=hJ (qjE _);have L0:=hJ (qaz n0.out);have L1:=hJ (qaz n1.out);have hel:(qbe l).length≤12100000:=by
  have h1:=qfN HP.out;have h2:=qaL [(l.length:Int)];unfold qbe;simp only[zA,zK,List.length_nil] at *;omega
 have HS:Hid (qav [s,f,t]++qbe l=qav [s]++(qa4 (uN f)++qa4 (uN t)++qbe l)):=hJ (by simp[qav]);go_enter Tryz.func36,Tryz.ntmps36;go_wp2_with fail;rw[←hu0];refine(qb1 (uN f) _ n0).mono ?_;rintro e w1 ⟨A1,c1,rfl,hc1,hm1,ho1,hx1⟩;have HO1:=hJ ho1;have X1:=hJ hx1;clear ho1 hx1 hu0;go_wp2_with fail;rw[←hu1];refine(qb1 (uN t) _ n1).mono ?_;rintro e w2 ⟨A2,c2,rfl,hc2,hm2,ho2,hx2⟩;have X2:=hJ (X1.out.trans hx2);have P2:=hJ (HO1.out.ext hx2);have R2:=hJ ho2.row;clear ho2 hx2 hu1;go_wp2_with (first
  | (at_builtin;refine qdV rfl (.tmp 12) (.tmp 15) rfl _ w A1 _ c1 (qa4 (uN f)) (by rfl) A2 _ c2 (qa4 (uN t)) (by rfl) rfl R2 P2 (by have:=L0.out;have:=L1.out;omega) X2 ?_;intro A3 c3 w3 h31 h32 HO3 X3;have s3:(qa4 (uN f)++qa4 (uN t)).length≤100:=(by have:=L0.out;have:=L1.out;simp;omega);generalize hS3:qa4 (uN f)++qa4 (uN t)=S3 at *)
  | fail)
 refine(qlz A c l w3 (H.out.ext X3.out) hn HP.out).mono ?_;rintro e w4 ⟨A4,c4,rfl,hc4,hm4,ho4,hx4⟩;have X4:=hJ (X3.out.trans hx4);have P4:=hJ (HO3.out.ext hx4);have R4:=hJ ho4.row;clear ho4 hx4;go_wp2_with (first
  | (at_builtin;refine qdV rfl (.tmp 18) (.tmp 20) rfl _ w A3 _ c3 S3 (by rfl) A4 _ c4 (qbe l) (by rfl) rfl R4 P4 (by omega) X4 ?_;intro A5 c5 w5 h51 h52 HO5 X5;have s5:(S3++qbe l).length≤90000000:=(by simp;omega);generalize hS5:S3++qbe l=S5 at *)
  | fail)
 refine(qiN 12 s A5 c5 S5 w5 HO5.out.row s5 (by omega)).mono ?_;rintro e w6 ⟨A6,c6,rfl,h61,h62,ho6,hx6⟩;have X6:=hJ (X5.out.trans hx6);have HO6:=hJ (ho6.base (B':=w.heap.size) X5.out.size);clear ho6 hx6;rw[←HS.out] at h61 HO6⊢;go_wp2;go_ret;exact⟨A6,c6,rfl,h61,h62,HO6.out,X6.out⟩
def frA:List UInt8:=[65,71,12,9,0,1,0,1,0,1,1,1,121]++le4 (qgM [65,71,12,9,0,1,0,1,0,1,1,1,121])
def frB:List UInt8:=[65,71,13,2,0,2]++le4 (qgM [65,71,13,2,0,2])
theorem qhh{n:Nat}(h:n<128):qa4 (uN (n:Int))=[UInt8.ofNat n]:=by
 have:uN (n:Int)=n:=by unfold uN;omega
 rw[this,qeV h]
theorem qrM:qa3 12 (qav [0,1,0]++qbe [⟨0,1,1,[121]⟩])=frA:=by
 have e0:qa4 (uN 0)=[0]:=qhh (n:=0) (by omega);have e1:qa4 (uN 1)=[1]:=qhh (n:=1) (by omega);have e2:qa4 1=[1]:=qeV (by omega);have e9:qa4 9=[9]:=qeV (by omega);have hb:qav [0,1,0]++qbe [⟨0,1,1,[121]⟩]=[0,1,0,1,0,1,1,1,121]:=by
  simp[qav,qbe,qhL,qeH,e0,e1,e2]
 rw[hb];unfold qa3;rw[if_pos (by decide)];have hp:qeJ 12 [0,1,0,1,0,1,1,1,121]=[65,71,12,9,0,1,0,1,0,1,1,1,121]:=by
  show [65,71,UInt8.ofNat 12]++qa4 9++_=_;rw[e9];rfl
 rw[hp];rfl
theorem qrd:qa3 13 (qav [0,2])=frB:=by
 have e0:qa4 (uN 0)=[0]:=qhh (n:=0) (by omega);have e2:qa4 (uN 2)=[2]:=qhh (n:=2) (by omega);have e9:qa4 2=[2]:=qeV (by omega);have hb:qav [0,2]=[0,2]:=by
  simp[qav,e0,e2]
 rw[hb];unfold qa3;rw[if_pos (by decide)];have hp:qeJ 13 [0,2]=[65,71,13,2,0,2]:=by
  show [65,71,UInt8.ofNat 13]++qa4 2++_=_;rw[e9];rfl
 rw[hp];rfl
theorem qqB:qa7 frA=some ⟨12,0,1,0,[],[⟨0,1,1,[121]⟩]⟩:=by decide +kernel
theorem qrH:qa7 frB=some ⟨13,0,2,0,[],[]⟩:=by decide +kernel
def gA:St:=(qbl (0,[1,2,3]) 1).1
def gB:St:=(qbl (0,[1,2,3]) 2).1
def gS:St:=(qbl (0,[4]) 4).1
def sA:St:=(qaI gA [121]).1
def sS:St:=(qaI gS [120]).1
def qvn:Msg:=⟨12,0,1,0,[],[⟨0,1,1,[121]⟩]⟩
def qvt:Msg:=⟨13,0,2,0,[],[]⟩
def tS:Cs:=qaM sS
def rB:Cs:=qaS ⟨gB,[],[]⟩ qvn
def rA:Cs:=qco ⟨sA,[],[]⟩ 2 2
theorem qk5:(qbl (0,[1,2,3]) 1).2=0∧(qbl (0,[1,2,3]) 2).2=0∧(qbl (0,[4]) 4).2=0:=by decide +kernel
theorem qoG:(qaI gA [121]).2=0∧(qaI gS [120]).2=0:=by decide +kernel
theorem qsB:qbF gA=true∧qbF gB=true∧qbF gS=true:=by decide +kernel
theorem qpb:qbF sA=true∧qbF sS=true:=by decide +kernel
theorem qug:qas gB=false∧1=qa1 (qad gB.views)∧qvn.num=(qad gB.views).1:=by decide +kernel
theorem qud:qas sA=true∧qbN (qad sA.views).2 2=true∧qvt.num=(qad sA.views).1∧sA.marks=[]:=by decide +kernel
theorem qtw:tS.dl.length=2∧(tS.dl[1]?).map (fun e=>(e.p,e.o))=some ([120],4)∧tS.s.pend=[]:=by decide +kernel
theorem qua:rB.s.log.length=2∧rB.s.stable=0:=by decide +kernel
theorem quh:rA.dl.length=2∧rA.s.stable=2:=by decide +kernel
theorem qvd:qao ⟨gB,[],[]⟩ 1 ⟨12,0,1,0,[],[⟨0,1,1,[121]⟩]⟩=rB:=by decide +kernel
theorem qu3:qao ⟨sA,[],[]⟩ 2 ⟨13,0,2,0,[],[]⟩=rA:=by decide +kernel
end Go.Proofs.YtponbabbabnaeaaGreat
