/- Part 26 of the proof: contracts of functions that the statement reaches. Conditions: as each theorem says. -/
import Derived.Test.YtponbabbabnaeaaGreatRows
import Derived.ProofKit
import Derived.OpenShut
import Derived.ShutString
import Derived.ChangeOld
import Derived.Below
import Derived.Lib.SmallJoins
import Derived.Deep.Slices
import Derived.Deep.Fields
import Derived.ChangeMaps5
import Derived.Test.YtponbabbabnaeaaGreatQe21
import Derived.Test.YtponbabbabnaeaaGreatQe15
import Derived.Test.YtponbabbabnaeaaGreatQe13
import Derived.Test.YtponbabbabnaeaaGreatQe01
import Derived.Test.YtponbabbabnaeaaGreatQe06
import Derived.Test.YtponbabbabnaeaaGreatQe07
import Derived.Test.YtponbabbabnaeaaGreatQe08
import Derived.Test.YtponbabbabnaeaaGreatQe22
import Derived.Test.YtponbabbabnaeaaGreatQe25
set_option maxRecDepth 100000
namespace Go.Proofs.YtponbabbabnaeaaGreat
open Go.RowKit
theorem qmO {P : Prop} (h : P := by
 clear y0 y1 y2 y3 y4 y5 y6 y7 y8 z0 z1 z2 z3 z4 z5 z6 z7 z8;clear hHeld;refine hK.out _ _ ⟨B_v.out.cell 0,B_v.out.cell 1,RC.out.at_ HX.out⟩ (fun hHeld=>?_)
 clear hK K;try simp only[Act.put,aP1,aP2,aP3]
 refine E_t 12 6 ?_;refine qaE (by kernel_rfl) (by rfl) ?_
 clear cx v0 v1;obtain⟨q0,q1,q2,q3,q4,q5,q6,q7,q8⟩:=qbC B_s.out
 have HLN:=hJ (qoh HW.out hk)
 go_wp2_with fail
 go_at_call 94;refine(qkK m w.heap.size col6 p b _ C.out RD.out (by have:=HLN.out;omega) (by have:=HLN.out;omega) (by have:=HLN.out;omega) (by have:=HLN.out;omega)).mono ?_
 rintro en w9 ⟨m9,col9,rfl,ws9,wd9,st9⟩
 have C9:=hJ ws9;have BL9:=hJ (BL.out.trans st9.below)
 have K9_v:=hJ ((st9.hue _ B_v.out.lt).trans K_v.out)
 have B9_v:=hJ (st9.bis B_v.out (by rw[K_v.out];decide))
 have K9_t:=hJ ((st9.hue _ B_t.out.lt).trans K_t.out)
 have B9_t:=hJ (st9.bis B_t.out (by rw[K_t.out];decide))
 have RC9:=hJ (RC.out.keep st9 (by decide))
 have HW9:Hid (m9.wd=qcY (n,xs) (k+1)):=hJ (by rw[wd9,HW.out,HST.out];exact(qgz HX.out).symm)
 clear ws9 st9 wd9 q0 q1 q2 q3 q4 q5 q6 q7 q8;go_wp2;go_roundw
 case rel=>exact⟨k+1,m9,col9,by omega,by go_num,C9,HW9,B9_v,K9_v,B9_t,K9_t,RC9,BL9⟩
 case measure=>simp[intOf];omega) : P := h
theorem qjH {P : Prop} (h : P := by
 simp only;rw[if_neg (by omega),if_neg (by omega),if_neg (by omega)]) : P := h
def qcY(v:Vw)(k:Nat):Wd:=(v.2.take k).foldl (fun w m=>qmy w (qba v m).1) ⟨[v],[],[],[],[],[]⟩
theorem qmk(v:Vw):qcY v v.2.length=qge v:=by unfold qcY qge;rw[List.take_length]
theorem qgz{n:Int}{xs:List Int}{k:Nat}{x:Int}(h:xs[k]?=some x):qcY (n,xs) (k+1)=qmy (qcY (n,xs) k) (qba (n,xs) x).1:=by
 unfold qcY
 simp only
 rw[List.take_add_one,h,List.foldl_append];rfl
theorem qhJ(v:Vw):∀k,k≤v.2.length→(qcY v k).mem.length=k∧(qcY v k).down.length=k∧(qcY v k).told.length=k∧(qcY v k).sent.length=k
 | 0,_=>by simp[qcY]
 | k+1,h=>by
  obtain⟨h1,h2,h3,h4⟩:=qhJ v k (by omega)
  rw[show qcY v (k+1)=_ from qgz (List.getElem?_eq_getElem (show k<v.2.length by omega))]
  unfold qmy
  simp only[List.length_append,List.length_cons,List.length_nil]
  simp only[Prod.eta] at *
  omega
theorem qoh{m:WM}{v:Vw}{k:Nat}(h:m.wd=qcY v k)(hk:k≤v.2.length):m.mem.length=k∧m.down.length=k∧m.told.length=k∧m.sent.length=k:=by
 have h1:=qhJ v k hk
 rw[←h] at h1
 simpa[WM.wd] using h1
def RowC(w:World)(col:Nat→Nat)(A:Option Addr)(xs:List Value):Prop:=Row w A xs∧ColR col 0 A xs
theorem RowC.keep{w w':World}{B:Nat}{cs:List Nat}{col col':Nat→Nat}{A:Option Addr}{xs:List Value}(h:RowC w col A xs)(s:Stp B cs col w col' w')(h0:0∉cs):RowC w' col' A xs:=⟨s.row h.1 h.2 h0,s.colR h.1 h.2⟩
theorem RowC.at_{w:World}{col:Nat→Nat}{b o k:Nat}{xs:List Int}{x:Int}(h:RowC w col (some (Pq b o)) (qam xs))(hx:xs[k]?=some x):w.cell? (Pq b (o+k))=some (Jq x):=h.1.get (by unfold qam;rw[List.getElem?_map,hx];rfl)
theorem qsS{w:World}{p:Nat}{a b:Value}{t:TypeId}(h:BIs w p #[a,b] t):w.cell? (Pq p 0)=some a∧w.cell? (Pq p 1)=some b:=⟨h.cell 0,h.cell 1⟩
theorem qnw{w:World}{r:Nat}{a b c d e f:Value}:Wrote r w ((((((w.setCell (Pq r 0) a).setCell (Pq r 1) b).setCell (Pq r 2) c).setCell (Pq r 3) d).setCell (Pq r 4) e).setCell (Pq r 5) f):=
 (((((Wrote.set r 0 w a).trans (Wrote.set r 1 _ b)).trans (Wrote.set r 2 _ c)).trans (Wrote.set r 3 _ d)).trans (Wrote.set r 4 _ e)).trans (Wrote.set r 5 _ f)
theorem qr7{α:Type}{E:Elem α}{w:World}{g B:Nat}{x:α}(h:BIs w g (E.f x).toArray E.ty)(hB:B≤g):E.Own w B (.slice (some (Pq g 0)) 1 1) [x]:=by
 have e:E.cells [x]=E.f x:=by rw[E.cells_cons];simp[Elem.cells]
 exact⟨by rw[e,E.len];simp,.inr ⟨g,1,_,rfl,hB,h,Nat.le_refl _,by decide,by simp[E.len],by rw[e];exact List.take_of_length_le (by rw[E.len];simp)⟩⟩
theorem qm4(n:Int)(A:Option Addr)(c:Nat)(xs:List Int)(w:World)(h:Row w A (qam xs))(hc:xs.length≤c)(hm:c≤maxLen) :
  Ext w ((((w.alloc (.cells #[Jq n,.slice A xs.length c] 46)).alloc (.cells #[Zq,Zq,Zq,Zq,Zq,Zq] 59)).alloc (.cells #[Jq n,.slice A xs.length c] 46)).alloc (.cells #[.slice (some (Pq (w.heap.size+2) 0)) 1 1,Zq,Zq,Zq,Zq,Zq] 59))∧BIs ((((w.alloc (.cells #[Jq n,.slice A xs.length c] 46)).alloc (.cells #[Zq,Zq,Zq,Zq,Zq,Zq] 59)).alloc (.cells #[Jq n,.slice A xs.length c] 46)).alloc (.cells #[.slice (some (Pq (w.heap.size+2) 0)) 1 1,Zq,Zq,Zq,Zq,Zq] 59)) w.heap.size #[Jq n,.slice A xs.length c] 46∧BIs ((((w.alloc (.cells #[Jq n,.slice A xs.length c] 46)).alloc (.cells #[Zq,Zq,Zq,Zq,Zq,Zq] 59)).alloc (.cells #[Jq n,.slice A xs.length c] 46)).alloc (.cells #[.slice (some (Pq (w.heap.size+2) 0)) 1 1,Zq,Zq,Zq,Zq,Zq] 59)) (w.heap.size+1) #[Zq,Zq,Zq,Zq,Zq,Zq] 59∧∃col:Nat→Nat,WS ((((w.alloc (.cells #[Jq n,.slice A xs.length c] 46)).alloc (.cells #[Zq,Zq,Zq,Zq,Zq,Zq] 59)).alloc (.cells #[Jq n,.slice A xs.length c] 46)).alloc (.cells #[.slice (some (Pq (w.heap.size+2) 0)) 1 1,Zq,Zq,Zq,Zq,Zq] 59)) w.heap.size col (w.heap.size+3) ⟨some (Pq (w.heap.size+2) 0),1,[⟨n,A,c,xs⟩],none,0,[],none,0,[],none,0,[],none,0,[],none,0,[]⟩∧col w.heap.size=0∧col (w.heap.size+1)=9∧RowC ((((w.alloc (.cells #[Jq n,.slice A xs.length c] 46)).alloc (.cells #[Zq,Zq,Zq,Zq,Zq,Zq] 59)).alloc (.cells #[Jq n,.slice A xs.length c] 46)).alloc (.cells #[.slice (some (Pq (w.heap.size+2) 0)) 1 1,Zq,Zq,Zq,Zq,Zq] 59)) col A (qam xs):=by
 have X1:Ext w (w.alloc (.cells #[Jq n,.slice A xs.length c] 46)):=Ext.new _ _
 have X2:Ext (w.alloc (.cells #[Jq n,.slice A xs.length c] 46)) ((w.alloc (.cells #[Jq n,.slice A xs.length c] 46)).alloc (.cells #[Zq,Zq,Zq,Zq,Zq,Zq] 59)):=Ext.new _ _
 have X3:Ext ((w.alloc (.cells #[Jq n,.slice A xs.length c] 46)).alloc (.cells #[Zq,Zq,Zq,Zq,Zq,Zq] 59)) (((w.alloc (.cells #[Jq n,.slice A xs.length c] 46)).alloc (.cells #[Zq,Zq,Zq,Zq,Zq,Zq] 59)).alloc (.cells #[Jq n,.slice A xs.length c] 46)):=Ext.new _ _
 have X4:Ext (((w.alloc (.cells #[Jq n,.slice A xs.length c] 46)).alloc (.cells #[Zq,Zq,Zq,Zq,Zq,Zq] 59)).alloc (.cells #[Jq n,.slice A xs.length c] 46)) ((((w.alloc (.cells #[Jq n,.slice A xs.length c] 46)).alloc (.cells #[Zq,Zq,Zq,Zq,Zq,Zq] 59)).alloc (.cells #[Jq n,.slice A xs.length c] 46)).alloc (.cells #[.slice (some (Pq (w.heap.size+2) 0)) 1 1,Zq,Zq,Zq,Zq,Zq] 59)):=Ext.new _ _
 have B2:BIs ((w.alloc (.cells #[Jq n,.slice A xs.length c] 46)).alloc (.cells #[Zq,Zq,Zq,Zq,Zq,Zq] 59)) (w.heap.size+1) #[Zq,Zq,Zq,Zq,Zq,Zq] 59:=BIs.newAt (w:=(w.alloc (.cells #[Jq n,.slice A xs.length c] 46))) _ _ (by simp)
 have B3:BIs (((w.alloc (.cells #[Jq n,.slice A xs.length c] 46)).alloc (.cells #[Zq,Zq,Zq,Zq,Zq,Zq] 59)).alloc (.cells #[Jq n,.slice A xs.length c] 46)) (w.heap.size+2) #[Jq n,.slice A xs.length c] 46:=BIs.newAt (w:=((w.alloc (.cells #[Jq n,.slice A xs.length c] 46)).alloc (.cells #[Zq,Zq,Zq,Zq,Zq,Zq] 59))) _ _ (by simp)
 have B4:BIs ((((w.alloc (.cells #[Jq n,.slice A xs.length c] 46)).alloc (.cells #[Zq,Zq,Zq,Zq,Zq,Zq] 59)).alloc (.cells #[Jq n,.slice A xs.length c] 46)).alloc (.cells #[.slice (some (Pq (w.heap.size+2) 0)) 1 1,Zq,Zq,Zq,Zq,Zq] 59)) (w.heap.size+3) #[.slice (some (Pq (w.heap.size+2) 0)) 1 1,Zq,Zq,Zq,Zq,Zq] 59:=BIs.newAt (w:=(((w.alloc (.cells #[Jq n,.slice A xs.length c] 46)).alloc (.cells #[Zq,Zq,Zq,Zq,Zq,Zq] 59)).alloc (.cells #[Jq n,.slice A xs.length c] 46))) _ _ (by simp)
 have hsz:((((w.alloc (.cells #[Jq n,.slice A xs.length c] 46)).alloc (.cells #[Zq,Zq,Zq,Zq,Zq,Zq] 59)).alloc (.cells #[Jq n,.slice A xs.length c] 46)).alloc (.cells #[.slice (some (Pq (w.heap.size+2) 0)) 1 1,Zq,Zq,Zq,Zq,Zq] 59)).heap.size=w.heap.size+4:=by simp
 have X:=((X1.trans X2).trans X3).trans X4
 refine⟨X,(BIs.new w _ _).ext ((X2.trans X3).trans X4),B2.ext (X3.trans X4),fun k=>if k=w.heap.size+1 then 9 else if k=w.heap.size+2 then 2 else if k=w.heap.size+3 then 1 else 0,⟨B4,?_,by omega,fun k hk=>?_,?_,Arr.nil _ _ _ _,Arr.nil _ _ _ _,Arr.nil _ _ _ _,Arr.nil _ _ _ _,Arr.nil _ _ _ _,fun i t ht=>by simp at ht,fun i t ht=>by simp at ht⟩,?_,?_,h.ext X,?_⟩
 ·simp only;rw[if_neg (by omega),if_neg (by omega),if_pos trivial]
 ·rw[hsz] at hk;(try simp only);rw[if_neg (by omega),if_neg (by omega),if_neg (by omega)]
 ·refine⟨qr7 (E:=qas) (x:=⟨n,A,c,xs⟩) (B3.ext X4) (by omega),fun q hq=>?_,fun a ha=>?_⟩
  ·simp only[Value.ownBlock,Option.some.injEq] at hq
   subst hq
   simp only;rw[if_neg (by omega),if_pos trivial]
  ·simp only[List.mem_cons,List.not_mem_nil,or_false] at ha
   subst ha
   refine⟨⟨hc,hm⟩,fun r hr=>?_⟩
   simp only[qas,List.mem_cons,List.not_mem_nil,or_false] at hr
   subst hr
   refine⟨h.ext X,fun q hne hq=>?_⟩
   obtain⟨b,off,h1,h2,_⟩:=h hne
   simp only at hq
   rw[h1] at hq;cases hq
   exact qjH
 ·exact qjH
 ·simp only;rw[if_pos trivial]
 ·intro q hne hq
  obtain⟨b,off,h1,h2,_⟩:=h hne
  rw[h1] at hq;cases hq
  exact qjH
def qty(w:World)(r:Wd)(en:Ending)(w':World):Prop:=∃m col p,en=.returned (.agg m.cells)∧WS w' w.heap.size col p m∧m.wd=r∧Below w.heap.size w w'
set_option maxHeartbeats 4000000 in
theorem qmM(n:Int)(A:Option Addr)(c:Nat)(xs:List Int)(w:World)(h:Row w A (qam xs))(hc:xs.length≤c)(hm:c≤maxLen)(hx:xs.length≤16) :
  Calls Tryz.prog 26 #[.agg #[Jq n,.slice A xs.length c]] w (qty w (qge (n,xs))):=by
 obtain⟨XX,B1,B2,col,C0,K1,K2,R0⟩:=qm4 n A c xs w h hc hm
 replace XX:=hJ XX;replace B1:=hJ B1;replace B2:=hJ B2;replace C0:=hJ C0;replace K1:=hJ K1;replace K2:=hJ K2;replace R0:=hJ R0
 have BL0:Hid (Below w.heap.size w ((((w.alloc (.cells #[Jq n,.slice A xs.length c] 46)).alloc (.cells #[Zq,Zq,Zq,Zq,Zq,Zq] 59)).alloc (.cells #[Jq n,.slice A xs.length c] 46)).alloc (.cells #[.slice (some (Pq (w.heap.size+2) 0)) 1 1,Zq,Zq,Zq,Zq,Zq] 59))):=hJ (XX.out.mono (Nat.le_refl _))
 have H0:=hJ h
 clear h XX;go_enter Tryz.func26,Tryz.ntmps26
 go_upto_region 2 with fail
 generalize ((((w.alloc (.cells #[Jq n,.slice A xs.length c] 46)).alloc (.cells #[Zq,Zq,Zq,Zq,Zq,Zq] 59)).alloc (.cells #[Jq n,.slice A xs.length c] 46)).alloc (.cells #[.slice (some (Pq (w.heap.size+2) 0)) 1 1,Zq,Zq,Zq,Zq,Zq] 59))=u0 at *
 obtain⟨M,hM⟩:∃m:WM,m=⟨some (Pq (w.heap.size+2) 0),1,[⟨n,A,c,xs⟩],none,0,[],none,0,[],none,0,[],none,0,[],none,0,[]⟩:=⟨_,rfl⟩
 rw[←hM] at C0
 have HW0:Hid (M.wd=qcY (n,xs) 0):=hJ (by rw[hM];rfl)
 clear hM;have Q2:Hid (w.heap.size≤w.heap.size+1):=hJ (by omega)
 obtain⟨p,hp⟩:∃x,x=w.heap.size+3:=⟨_,rfl⟩
 rw[←hp] at C0⊢
 obtain⟨r2,hr2⟩:∃x,x=w.heap.size+1:=⟨_,rfl⟩
 rw[←hr2] at B2 K2 Q2⊢
 clear hp hr2;go_wp2;go_loopw [4] (fun i wr=>∃(k:Nat) (m:WM) (colr:Nat→Nat),k≤xs.length∧i=Jq k∧Hid (WS wr w.heap.size colr p m)∧Hid (m.wd=qcY (n,xs) k)∧Hid (BIs wr w.heap.size #[Jq n,.slice A xs.length c] 46)∧Hid (colr w.heap.size=0)∧Hid (BIs wr r2 #[Zq,Zq,Zq,Zq,Zq,Zq] 59)∧Hid (colr r2=9)∧Hid (RowC wr colr A (qam xs))∧Hid (Below w.heap.size w wr)) (fun i _=>xs.length - (intOf i).toNat)
 case atStart=>exact⟨0,M,col,Nat.zero_le _,rfl,C0,HW0,B1,K1,B2,K2,R0,BL0⟩
 case round=>
  clear C0 HW0 B1 K1 B2 K2 R0 BL0;obtain⟨k,m,colr,hk,rfl,C,HW,B_v,K_v,B_t,K_t,RC,BL⟩:=hrel
  obtain⟨v0,v1⟩:=qsS B_v.out
  by_cases hlt:k<xs.length
  rotate_left
  ·have hkk:k=xs.length:=by omega
   have hw:m.wd=qge (n,xs):=by rw[HW.out,hkk,qmk]
   clear v0 v1;have v1:=B_v.out.cell 1
   obtain⟨z0,z1,z2,z3,z4,z5⟩:=qaB C.out
   obtain⟨y0,y1,y2,y3,y4,y5⟩:=six B_t.out
   obtain⟨f0,f1,f2,f3,f4,f5⟩:=qbb B_t.out
   go_wp2;have ST:Hid (Stp w.heap.size [9] colr wr colr ((((((wr.setCell (Pq r2 0) (.slice m.Av m.vs.length m.cv)).setCell (Pq r2 1) (.slice m.Am m.mem.length m.cm)).setCell (Pq r2 2) (.slice m.Ad m.down.length m.cd)).setCell (Pq r2 3) (.slice m.At m.told.length m.ct)).setCell (Pq r2 4) (.slice m.As m.sent.length m.cs)).setCell (Pq r2 5) (.slice m.Af m.fly.length m.cf))):=hJ (Stp.wrote qnw Q2.out C.out.Bsz (by rw[K_t.out];decide))
   have BF:Hid (BIs ((((((wr.setCell (Pq r2 0) (.slice m.Av m.vs.length m.cv)).setCell (Pq r2 1) (.slice m.Am m.mem.length m.cm)).setCell (Pq r2 2) (.slice m.Ad m.down.length m.cd)).setCell (Pq r2 3) (.slice m.At m.told.length m.ct)).setCell (Pq r2 4) (.slice m.As m.sent.length m.cs)).setCell (Pq r2 5) (.slice m.Af m.fly.length m.cf)) r2 #[.slice m.Av m.vs.length m.cv,.slice m.Am m.mem.length m.cm,.slice m.Ad m.down.length m.cd,.slice m.At m.told.length m.ct,.slice m.As m.sent.length m.cs,.slice m.Af m.fly.length m.cf] 59):=hJ (qce B_t.out)
   have CF:Hid (WS ((((((wr.setCell (Pq r2 0) (.slice m.Av m.vs.length m.cv)).setCell (Pq r2 1) (.slice m.Am m.mem.length m.cm)).setCell (Pq r2 2) (.slice m.Ad m.down.length m.cd)).setCell (Pq r2 3) (.slice m.At m.told.length m.ct)).setCell (Pq r2 4) (.slice m.As m.sent.length m.cs)).setCell (Pq r2 5) (.slice m.Af m.fly.length m.cf)) w.heap.size colr p m):=hJ (C.out.keepB ST.out (by decide) (fun k hk=>C.out.z k (Nat.le_trans ST.out.size hk)))
   have BF2:=hJ (BL.out.trans ST.out.below)
   generalize ((((((wr.setCell (Pq r2 0) (.slice m.Av m.vs.length m.cv)).setCell (Pq r2 1) (.slice m.Am m.mem.length m.cm)).setCell (Pq r2 2) (.slice m.Ad m.down.length m.cd)).setCell (Pq r2 3) (.slice m.At m.told.length m.ct)).setCell (Pq r2 4) (.slice m.As m.sent.length m.cs)).setCell (Pq r2 5) (.slice m.Af m.fly.length m.cf))=wf at *
   obtain⟨g0,g1,g2,g3,g4,g5⟩:=six BF.out
   refine bodyPost_ret (v:=.agg #[.slice m.Av m.vs.length m.cv,.slice m.Am m.mem.length m.cm,.slice m.Ad m.down.length m.cd,.slice m.At m.told.length m.ct,.slice m.As m.sent.length m.cs,.slice m.Af m.fly.length m.cf]) (by simp[results,Tryz.results26,go_sem,g0,g1,g2,g3,g4,g5]) rfl ?_
   exact⟨m,colr,p,rfl,CF.out,hw,BF2.out⟩
  obtain⟨ab,ao,x,rfl,cx,HX⟩:=Row.at_ RC.out.1 hlt
  have hlt':(k:Int)<(xs.length:Int):=by omega
  go_upto_region 5 with fail
  refine qac 13 (fun w'=>w'.cell? (Pw w 0)=some (Jq n)∧w'.cell? (Pw w 1)=some (.slice (some (Pq ab ao)) xs.length c)∧Cq w' ab (ao+k) (Jq x)) (by kernel_rfl) ⟨v0,v1,cx⟩ (fun hHeld=>?_)
  have XD:Hid (Ext wr wr.drew):=hJ Ext.drew1
  have ST:=hJ (Stp.ext' (B:=w.heap.size) (cs:=[]) (col:=colr) C.out.Bsz XD.out)
  replace BL:=hJ (BL.out.trans ST.out.below)
  replace C:=hJ (C.out.keepB ST.out (by decide) (fun k hk=>C.out.z k (Nat.le_trans (XD.out).size hk)))
  replace K_v:=hJ ((ST.out.hue _ B_v.out.lt).trans K_v.out)
  replace B_v:=hJ (ST.out.bis B_v.out (by rw[←ST.out.hue _ B_v.out.lt,K_v.out];decide))
  replace K_t:=hJ ((ST.out.hue _ B_t.out.lt).trans K_t.out)
  replace B_t:=hJ (ST.out.bis B_t.out (by rw[←ST.out.hue _ B_t.out.lt,K_t.out];decide))
  replace RC:=hJ (RC.out.keep ST.out (by decide))
  clear ST;clear XD;generalize wr.drew=u0 at *
  refine E_t 0 18 ?_;refine E_t 1 19 ?_;refine E_t 2 20 ?_;refine E_t 3 21 ?_;refine E_t 4 22 ?_;refine E_t 5 23 ?_;refine qc3 [6,10] (by kernel_rfl) (by simp) ?_
  refine(AllE.cons (o:=⟨some 24,_,_,_,_,_⟩) rfl (fun K hK=>?_) (AllE.cons (o:=⟨some 5,_,_,_,_,_⟩) rfl (fun K hK=>?_) AllE.nil))
  ·go_simp
   go_at_call 22;refine(qc2 n _ c xs x _ RC.out.1 (by omega)).mono ?_
   rintro en w3 ⟨b,rfl,hst,hrd,hft,hx,hnw⟩
   have HST:=hJ hst;have RD:Hid (RdC w3 colr b):=hJ (qgA hrd hft hnw C.out.z)
   clear hst hrd hft hnw;unfold BM.cells
   have ST:=hJ (Stp.ext' (B:=w.heap.size) (cs:=[]) (col:=colr) C.out.Bsz hx)
   replace BL:=hJ (BL.out.trans ST.out.below)
   replace C:=hJ (C.out.keepB ST.out (by decide) (fun k hk=>C.out.z k (Nat.le_trans (hx).size hk)))
   replace K_v:=hJ ((ST.out.hue _ B_v.out.lt).trans K_v.out)
   replace B_v:=hJ (ST.out.bis B_v.out (by rw[←ST.out.hue _ B_v.out.lt,K_v.out];decide))
   replace K_t:=hJ ((ST.out.hue _ B_t.out.lt).trans K_t.out)
   replace B_t:=hJ (ST.out.bis B_t.out (by rw[←ST.out.hue _ B_t.out.lt,K_t.out];decide))
   replace RC:=hJ (RC.out.keep ST.out (by decide))
   clear ST;clear hx;clear hHeld;refine hK.out _ _ ⟨B_v.out.cell 0,B_v.out.cell 1,RC.out.at_ HX.out⟩ (fun hHeld=>?_)
   clear hK K;try simp only[Act.put,aP1,aP2,aP3]
   refine E_t 7 17 ?_;refine E_t 8 25 ?_;refine E_t 9 26 ?_;refine E_r 10 (some 5) fun K hK=>?_
   go_simp;have ST:Hid (Stp w.heap.size [] colr w3 (qdg colr w3.heap.size 8) (w3.alloc (.cells Yq 28))):=hJ (Stp.newBox C.out.Bsz)
   have B_s:Hid (BIs (w3.alloc (.cells Yq 28)) w3.heap.size Yq 28):=hJ (BIs.new _ _ _)
   have K_s:Hid ((qdg colr w3.heap.size 8) w3.heap.size=8):=hJ qch
   have HBr:Hid (w.heap.size≤w3.heap.size):=hJ C.out.Bsz
   replace BL:=hJ (BL.out.trans ST.out.below)
   replace C:=hJ (C.out.keepB ST.out (by decide) (qej C.out.z))
   replace K_v:=hJ ((ST.out.hue _ B_v.out.lt).trans K_v.out)
   replace B_v:=hJ (ST.out.bis B_v.out (by rw[←ST.out.hue _ B_v.out.lt,K_v.out];decide))
   replace K_t:=hJ ((ST.out.hue _ B_t.out.lt).trans K_t.out)
   replace B_t:=hJ (ST.out.bis B_t.out (by rw[←ST.out.hue _ B_t.out.lt,K_t.out];decide))
   replace RC:=hJ (RC.out.keep ST.out (by decide))
   replace RD:=hJ (RD.out.keep ST.out (by decide))
   clear ST;generalize (qdg colr w3.heap.size 8)=col6 at *
   generalize (w3.alloc (.cells Yq 28))=u6 at *
   generalize w3.heap.size=rs at *
   have Q_s:=HBr
   clear HBr;clear hHeld;refine hK.out _ _ ⟨B_v.out.cell 0,B_v.out.cell 1,RC.out.at_ HX.out⟩ (fun hHeld=>?_)
   clear hK K;try simp only[Act.put,aP1,aP2,aP3]
   refine E_r 11 none fun K hK=>?_
   obtain⟨y0,y1,y2,y3,y4,y5,y6,y7,y8⟩:=qbC B_s.out
   obtain⟨z0,z1,z2,z3,z4,z5,z6,z7,z8⟩:=B_s.out.free9
   go_simp;have ST:Hid (Stp w.heap.size [8] col6 u6 col6 (((((((((u6.setCell (Pq rs 0) (Jq b.self)).setCell (Pq rs 1) (.slice b.Av b.vs.length b.cv)).setCell (Pq rs 2) (Jq b.base)).setCell (Pq rs 3) (.slice b.Al b.log.length b.cl)).setCell (Pq rs 4) (Jq b.stable)).setCell (Pq rs 5) (Jq b.sent)).setCell (Pq rs 6) (.slice b.Ap b.pend.length b.cp)).setCell (Pq rs 7) (.slice b.Am b.marks.length b.cm)).setCell (Pq rs 8) (.slice b.Af b.fls.length b.cf))):=hJ (Stp.wrote qak Q_s.out C.out.Bsz (by rw[K_s.out];decide))
   have BN:Hid (BIs (((((((((u6.setCell (Pq rs 0) (Jq b.self)).setCell (Pq rs 1) (.slice b.Av b.vs.length b.cv)).setCell (Pq rs 2) (Jq b.base)).setCell (Pq rs 3) (.slice b.Al b.log.length b.cl)).setCell (Pq rs 4) (Jq b.stable)).setCell (Pq rs 5) (Jq b.sent)).setCell (Pq rs 6) (.slice b.Ap b.pend.length b.cp)).setCell (Pq rs 7) (.slice b.Am b.marks.length b.cm)).setCell (Pq rs 8) (.slice b.Af b.fls.length b.cf)) rs b.cells 28):=hJ (qaJ B_s.out)
   clear B_s;have B_s:=BN
   clear BN;replace BL:=hJ (BL.out.trans ST.out.below)
   replace C:=hJ (C.out.keepB ST.out (by decide) (fun k hk=>C.out.z k (Nat.le_trans qak.size hk)))
   replace K_v:=hJ ((ST.out.hue _ B_v.out.lt).trans K_v.out)
   replace B_v:=hJ (ST.out.bis B_v.out (by rw[←ST.out.hue _ B_v.out.lt,K_v.out];decide))
   replace K_t:=hJ ((ST.out.hue _ B_t.out.lt).trans K_t.out)
   replace B_t:=hJ (ST.out.bis B_t.out (by rw[←ST.out.hue _ B_t.out.lt,K_t.out];decide))
   replace RC:=hJ (RC.out.keep ST.out (by decide))
   replace RD:=hJ (RD.out.keep ST.out (by decide))
   clear ST;generalize (((((((((u6.setCell (Pq rs 0) (Jq b.self)).setCell (Pq rs 1) (.slice b.Av b.vs.length b.cv)).setCell (Pq rs 2) (Jq b.base)).setCell (Pq rs 3) (.slice b.Al b.log.length b.cl)).setCell (Pq rs 4) (Jq b.stable)).setCell (Pq rs 5) (Jq b.sent)).setCell (Pq rs 6) (.slice b.Ap b.pend.length b.cp)).setCell (Pq rs 7) (.slice b.Am b.marks.length b.cm)).setCell (Pq rs 8) (.slice b.Af b.fls.length b.cf))=u7 at *
   exact qmO
  ·go_simp
   have ST:Hid (Stp w.heap.size [] colr u0 (qdg colr u0.heap.size 8) (u0.alloc (.cells Yq 28))):=hJ (Stp.newBox C.out.Bsz)
   have B_s:Hid (BIs (u0.alloc (.cells Yq 28)) u0.heap.size Yq 28):=hJ (BIs.new _ _ _)
   have K_s:Hid ((qdg colr u0.heap.size 8) u0.heap.size=8):=hJ qch
   have HBr:Hid (w.heap.size≤u0.heap.size):=hJ C.out.Bsz
   replace BL:=hJ (BL.out.trans ST.out.below)
   replace C:=hJ (C.out.keepB ST.out (by decide) (qej C.out.z))
   replace K_v:=hJ ((ST.out.hue _ B_v.out.lt).trans K_v.out)
   replace B_v:=hJ (ST.out.bis B_v.out (by rw[←ST.out.hue _ B_v.out.lt,K_v.out];decide))
   replace K_t:=hJ ((ST.out.hue _ B_t.out.lt).trans K_t.out)
   replace B_t:=hJ (ST.out.bis B_t.out (by rw[←ST.out.hue _ B_t.out.lt,K_t.out];decide))
   replace RC:=hJ (RC.out.keep ST.out (by decide))
   clear ST;generalize (qdg colr u0.heap.size 8)=col6 at *
   generalize (u0.alloc (.cells Yq 28))=u6 at *
   generalize u0.heap.size=rs at *
   have Q_s:=HBr
   clear HBr;clear hHeld;refine hK.out _ _ ⟨B_v.out.cell 0,B_v.out.cell 1,RC.out.at_ HX.out⟩ (fun hHeld=>?_)
   clear hK K;try simp only[Act.put,aP1,aP2,aP3]
   refine E_r 6 (some 24) fun K hK=>?_
   go_simp;go_at_call 22;refine(qc2 n _ c xs x _ RC.out.1 (by omega)).mono ?_
   rintro en w3 ⟨b,rfl,hst,hrd,hft,hx,hnw⟩
   have HST:=hJ hst;have RD:Hid (RdC w3 col6 b):=hJ (qgA hrd hft hnw C.out.z)
   clear hst hrd hft hnw;unfold BM.cells
   have ST:=hJ (Stp.ext' (B:=w.heap.size) (cs:=[]) (col:=col6) C.out.Bsz hx)
   replace BL:=hJ (BL.out.trans ST.out.below)
   replace C:=hJ (C.out.keepB ST.out (by decide) (fun k hk=>C.out.z k (Nat.le_trans (hx).size hk)))
   replace K_v:=hJ ((ST.out.hue _ B_v.out.lt).trans K_v.out)
   replace B_v:=hJ (ST.out.bis B_v.out (by rw[←ST.out.hue _ B_v.out.lt,K_v.out];decide))
   replace K_t:=hJ ((ST.out.hue _ B_t.out.lt).trans K_t.out)
   replace B_t:=hJ (ST.out.bis B_t.out (by rw[←ST.out.hue _ B_t.out.lt,K_t.out];decide))
   replace K_s:=hJ ((ST.out.hue _ B_s.out.lt).trans K_s.out)
   replace B_s:=hJ (ST.out.bis B_s.out (by rw[←ST.out.hue _ B_s.out.lt,K_s.out];decide))
   replace RC:=hJ (RC.out.keep ST.out (by decide))
   clear ST;clear hx;clear hHeld;refine hK.out _ _ ⟨B_v.out.cell 0,B_v.out.cell 1,RC.out.at_ HX.out⟩ (fun hHeld=>?_)
   clear hK K;try simp only[Act.put,aP1,aP2,aP3]
   refine E_t 7 17 ?_;refine E_t 8 25 ?_;refine E_t 9 26 ?_;refine E_r 11 none fun K hK=>?_
   obtain⟨y0,y1,y2,y3,y4,y5,y6,y7,y8⟩:=qbC B_s.out
   obtain⟨z0,z1,z2,z3,z4,z5,z6,z7,z8⟩:=B_s.out.free9
   go_simp;have ST:Hid (Stp w.heap.size [8] col6 w3 col6 (((((((((w3.setCell (Pq rs 0) (Jq b.self)).setCell (Pq rs 1) (.slice b.Av b.vs.length b.cv)).setCell (Pq rs 2) (Jq b.base)).setCell (Pq rs 3) (.slice b.Al b.log.length b.cl)).setCell (Pq rs 4) (Jq b.stable)).setCell (Pq rs 5) (Jq b.sent)).setCell (Pq rs 6) (.slice b.Ap b.pend.length b.cp)).setCell (Pq rs 7) (.slice b.Am b.marks.length b.cm)).setCell (Pq rs 8) (.slice b.Af b.fls.length b.cf))):=hJ (Stp.wrote qak Q_s.out C.out.Bsz (by rw[K_s.out];decide))
   have BN:Hid (BIs (((((((((w3.setCell (Pq rs 0) (Jq b.self)).setCell (Pq rs 1) (.slice b.Av b.vs.length b.cv)).setCell (Pq rs 2) (Jq b.base)).setCell (Pq rs 3) (.slice b.Al b.log.length b.cl)).setCell (Pq rs 4) (Jq b.stable)).setCell (Pq rs 5) (Jq b.sent)).setCell (Pq rs 6) (.slice b.Ap b.pend.length b.cp)).setCell (Pq rs 7) (.slice b.Am b.marks.length b.cm)).setCell (Pq rs 8) (.slice b.Af b.fls.length b.cf)) rs b.cells 28):=hJ (qaJ B_s.out)
   clear B_s;have B_s:=BN
   clear BN;replace BL:=hJ (BL.out.trans ST.out.below)
   replace C:=hJ (C.out.keepB ST.out (by decide) (fun k hk=>C.out.z k (Nat.le_trans qak.size hk)))
   replace K_v:=hJ ((ST.out.hue _ B_v.out.lt).trans K_v.out)
   replace B_v:=hJ (ST.out.bis B_v.out (by rw[←ST.out.hue _ B_v.out.lt,K_v.out];decide))
   replace K_t:=hJ ((ST.out.hue _ B_t.out.lt).trans K_t.out)
   replace B_t:=hJ (ST.out.bis B_t.out (by rw[←ST.out.hue _ B_t.out.lt,K_t.out];decide))
   replace RC:=hJ (RC.out.keep ST.out (by decide))
   replace RD:=hJ (RD.out.keep ST.out (by decide))
   clear ST;generalize (((((((((w3.setCell (Pq rs 0) (Jq b.self)).setCell (Pq rs 1) (.slice b.Av b.vs.length b.cv)).setCell (Pq rs 2) (Jq b.base)).setCell (Pq rs 3) (.slice b.Al b.log.length b.cl)).setCell (Pq rs 4) (Jq b.stable)).setCell (Pq rs 5) (Jq b.sent)).setCell (Pq rs 6) (.slice b.Ap b.pend.length b.cp)).setCell (Pq rs 7) (.slice b.Am b.marks.length b.cm)).setCell (Pq rs 8) (.slice b.Af b.fls.length b.cf))=u7 at *
   exact qmO
end Go.Proofs.YtponbabbabnaeaaGreat
namespace Go.Proofs.YtponbabbabnaeaaGreat
open Go.ChangeShapes Go.WideShapes Go.ChangeAt Go.RowKit
theorem own:ownKnob Tryz.prog.godebug=none:=by kernel_rfl
theorem qoB:laidOutB Tryz.prog=true:=by kernel_rfl
theorem qkE{w:World}{a:Addr}{k:IntKind}{zs:List Int}{len:Nat}(hlen:len≤zs.length)(h:∀i,i<zs.length→w.cell? (a.add i)=some (.int k (zs.getD i 0))) :
  Row w (some a) ((zs.take len).map (Value.int k)):=by
 intro hne
 have hp:0<zs.length:=by
  rcases Nat.eq_zero_or_pos zs.length with h0|h0
  ·have:zs=[]:=List.eq_nil_of_length_eq_zero h0
   subst this;simp at hne
  ·exact h0
 obtain⟨b,off,rfl,hc⟩:=ints_at h hp
 refine⟨b,off,rfl,?_,fun j v hj=>?_⟩
 ·have:=World.block_lt_of_cell? w _ (hc 0 hp);exact this
 ·simp only[List.getElem?_map,Option.map_eq_some_iff] at hj
  obtain⟨x,hx,rfl⟩:=hj
  simp only[List.getElem?_take] at hx
  split at hx
  ·have hj':=(List.getElem?_eq_some_iff.1 hx).1
   rw[hc j hj'];simp[List.getD,hx]
  ·cases hx
section
variable {H:Type} {enc:TypeId×Value→H} {w:World} {base:Nat} {spare:Nat→Bool} {held:Bool}
theorem qmw{fuel:Nat}{cs:List Value}{x:DataW H×List MemPlace}(h:DataW.trod enc Tryz.prog w base spare held fuel 44 cs=some x) :
  ∃A c,∃xs:List Int,cs=[.slice A xs.length c]∧xs.length≤c∧c≤maxLen∧Row w A (qam xs)∧∀x∈xs,I64 x:=by
 rcases open_ints Tryz.underlying44 Tryz.underlying3 (by kernel_rfl) h with ⟨hcs,_⟩|⟨a,len,cap,zs,hcs,_,hl,hm,hz,_,hcell,hwz⟩
 ·exact⟨none,0,[],hcs,Nat.le_refl _,Nat.zero_le _,Row.nil _ _,fun x hx=>by simp at hx⟩
 ·have hlz:len≤zs.length:=by rw[hz];split<;>omega
  refine⟨some a,cap,zs.take len,by rw[hcs,List.length_take,Nat.min_eq_left hlz],by rw[List.length_take];omega,hm,qkE hlz hcell,fun x hx=>?_⟩
  have:=bounds_i64 (hwz x (List.mem_of_mem_take hx))
  exact this
theorem qmZ{fuel:Nat}{cs:List Value}{x:DataW H×List MemPlace}(h:DataW.trod enc Tryz.prog w base spare held fuel 3 cs=some x):∃n,cs=[Jq n]∧I64 n:=by
 obtain⟨n,h1,_,h3⟩:=DataW.trod_int Tryz.underlying3 h
 exact⟨n,h1,bounds_i64 h3⟩
theorem qro{r:Reach}{b0:Nat}{v:Value}{d:DataW H}{p:List MemPlace}(hv:Value.okWide Tryz.prog w r b0 46 v)(h:DataW.Trod enc Tryz.prog w base spare held 46 v d p) :
  ∃n A c,∃xs:List Int,v=.agg #[Jq n,.slice A xs.length c]∧I64 n∧xs.length≤c∧c≤maxLen∧Row w A (qam xs)∧∀x∈xs,I64 x:=by
 obtain⟨v0,v1,y0,y1,m,rfl,_,_,h0,h1⟩:=Joins.open_agg2 Tryz.underlying46 (by kernel_rfl) (by kernel_rfl) hv h
 obtain⟨n,hn,hi⟩:=qmZ h0
 obtain⟨A,c,xs,hcs,hr⟩:=qmw h1
 simp at hn hcs
 subst hn hcs
 exact⟨n,A,c,xs,rfl,hi,hr⟩
end
end Go.Proofs.YtponbabbabnaeaaGreat
namespace Go.Proofs.YtponbabbabnaeaaGreat
open Go.RowKit
end Go.Proofs.YtponbabbabnaeaaGreat
namespace Go.Proofs.YtponbabbabnaeaaGreat
open Go.ChangeShapes Go.WideShapes Go.ChangeAt Go.RowKit
section
variable {H:Type} {enc:TypeId×Value→H} {w:World} {base:Nat} {spare:Nat→Bool} {held:Bool}
theorem qje{t:TypeId}{fs:Array Field}{fuel:Nat}{cs:List Value}{x:DataW H×List MemPlace}(hs:Tryz.prog.underlying t=some (.struct fs))(hone:Go.Deep.oneCellFields Tryz.prog fs=true)
  (h:DataW.trod enc Tryz.prog w base spare held fuel t cs=some x):cs.length=Tryz.prog.cellsOf t∧∃n,∀(i:Nat) (f:Field) (v:Value),fs[i]?=some f→cs[i]?=some v→∃y,DataW.trod enc Tryz.prog w base spare held n f.type [v]=some y:=by
 obtain⟨xs,n,_,_,hl,hlen,hf⟩:=DataW.trod_struct hs h
 refine⟨hl,n,fun i f v hi hv=>?_⟩
 obtain⟨o,k⟩:=Go.Deep.hone_of hone i f hi
 have h1:=hf i f hi
 rw[o,k,List.drop_eq_getElem_cons (List.getElem?_eq_some_iff.1 hv).1,(List.getElem?_eq_some_iff.1 hv).2] at h1
 have hx:i<xs.length:=by rw[hlen];exact(Array.getElem?_eq_some_iff.1 hi).1
 exact⟨xs[i],by rw[List.getElem?_eq_getElem hx] at h1;simpa using h1⟩
theorem qlM{α:Type} [Inhabited α] (E:Elem α) (Q:α→Prop) (hc:Tryz.prog.cellsOf E.ty=E.k)
  (hel:∀(fuel:Nat) (cs':List Value) (x:DataW H×List MemPlace),DataW.trod enc Tryz.prog w base spare held fuel E.ty cs'=some x→∃a,cs'=E.f a∧E.ok a∧(∀r∈E.inn a,Row w r.1 r.2)∧Q a)
  {fuel:Nat} {cs:List Value} {x:DataW H×List MemPlace} (h:DataW.trod enc Tryz.prog w base spare held fuel E.st cs=some x) :
  ∃A c,∃l:List α,cs=[.slice A l.length c]∧l.length≤c∧c≤maxLen∧E.Box w A l∧∀a∈l,Q a:=by
 rcases Go.Deep.open_slice E.und h with ⟨hcs,_⟩|⟨a,len,cap,m,n,D,Pl,hcs,_,hl,hm,hmm,_,hx⟩
 ·exact⟨none,0,[],hcs,Nat.le_refl _,Nat.zero_le _,Elem.Box.nil _ _,fun a ha=>by cases ha⟩
 ·have hlm:len≤m:=by rw[hmm];split<;>omega
  obtain⟨f,hf⟩:=Go.Deep.choose_lt (α:=α) (n:=len) (p:=fun i b=>(∀j,j<E.k→w.cell? ((a.add (i*E.k)).add j)=(E.f b)[j]?)∧E.ok b∧(∀r∈E.inn b,Row w r.1 r.2)∧Q b) (fun i hi=>by
   obtain⟨cs',h1,h2⟩:=hx i (by omega)
   rw[hc] at h1
   obtain⟨_,_,hcell⟩:=World.cells?_some h1
   obtain⟨b,rfl,hb⟩:=hel n cs' _ h2
   exact⟨b,hcell,hb⟩)
  have hlen:((List.range len).map f).length=len:=by simp
  refine⟨some a,cap,(List.range len).map f,by rw[hcs,hlen],by rw[hlen];exact hl,hm,⟨?_,fun b hb=>?_⟩,fun b hb=>?_⟩
  ·intro hne
   have hp:0<len:=by
    rcases Nat.eq_zero_or_pos len with h0|h0
    ·subst h0;simp[Elem.cells] at hne
    ·exact h0
   obtain⟨b,off,spot⟩:=a
   have hk:=E.pos
   have h00:=(hf 0 hp).1 0 hk
   have hv0:∃v,(E.f (f 0))[0]?=some v:=⟨_,List.getElem?_eq_getElem (by rw[E.len];exact hk)⟩
   obtain⟨v0,hv0⟩:=hv0
   rw[hv0] at h00
   have hspot:spot=none:=by simpa[Addr.add] using World.cell?_spot h00
   subst hspot
   rw[Go.WideShapes.add_plain,Go.WideShapes.add_plain] at h00
   refine⟨b,off,rfl,World.block_lt_of_cell? w _ h00,fun j u hj=>?_⟩
   obtain⟨i,j',q,rfl,hj',hq,hu⟩:=E.cells_inv hj
   have hil:i<len:=by have:=(List.getElem?_eq_some_iff.1 hq).1;simpa using this
   have hfi:f i=q:=by
    rw[List.getElem?_map,List.getElem?_range hil] at hq;simpa using hq
   have:=(hf i hil).1 j' hj'
   rw[Go.WideShapes.add_plain,Go.WideShapes.add_plain,hfi,hu,Nat.add_assoc] at this
   exact this
  ·obtain⟨i,hi,rfl⟩:=List.mem_map.1 hb
   have:=hf i (List.mem_range.1 hi)
   exact⟨this.2.1,this.2.2.1⟩
  ·obtain⟨i,hi,rfl⟩:=List.mem_map.1 hb
   exact(hf i (List.mem_range.1 hi)).2.2.2
end
end Go.Proofs.YtponbabbabnaeaaGreat
namespace Go.Proofs.YtponbabbabnaeaaGreat
open Go.ChangeShapes Go.WideShapes Go.ChangeAt Go.RowKit
section
variable {H:Type} {enc:TypeId×Value→H} {w:World} {base:Nat} {spare:Nat→Bool} {held:Bool}
theorem qs1{n:Int}(h:(Lit.int .u8 n).wf=true):0≤n∧n<256:=by
 simp[Lit.wf,IntKind.min,IntKind.max,IntKind.signed,IntKind.bits] at h;omega
theorem qru{n:Int}(h:(Lit.int .u16 n).wf=true):0≤n∧n<65536:=by
 simp[Lit.wf,IntKind.min,IntKind.max,IntKind.signed,IntKind.bits] at h;omega
theorem qiy{fuel:Nat}{cs:List Value}{x:DataW H×List MemPlace}(h:DataW.trod enc Tryz.prog w base spare held fuel 5 cs=some x):∃n:Nat,cs=[.int .u8 (n:Int)]∧n<256:=by
 obtain⟨n,h1,_,h3⟩:=DataW.trod_int Tryz.underlying5 h
 obtain⟨h4,h5⟩:=qs1 h3
 exact⟨n.toNat,by rw[h1,show ((n.toNat:Nat):Int)=n by omega],by omega⟩
theorem qnW{fuel:Nat}{cs:List Value}{x:DataW H×List MemPlace}(h:DataW.trod enc Tryz.prog w base spare held fuel 139 cs=some x):∃n:Nat,cs=[.int .u16 (n:Int)]∧n<65536:=by
 obtain⟨n,h1,_,h3⟩:=DataW.trod_int Tryz.underlying139 h
 obtain⟨h4,h5⟩:=qru h3
 exact⟨n.toNat,by rw[h1,show ((n.toNat:Nat):Int)=n by omega],by omega⟩
def qtB(m:Mv):Prop:=m.kind<256∧m.a<256∧m.cut<256∧m.n<65536
theorem qpI(fuel:Nat)(cs:List Value)(x:DataW H×List MemPlace)(h:DataW.trod enc Tryz.prog w base spare held fuel 141 cs=some x):∃a,cs=mvE.f a∧mvE.ok a∧(∀r∈mvE.inn a,Row w r.1 r.2)∧qtB a:=by
 obtain⟨hl,n,hf⟩:=qje Tryz.underlying141 (by kernel_rfl) h
 have hl4:cs.length=4:=hl.trans (by kernel_rfl)
 match cs,hl4 with
 | [v0,v1,v2,v3],_=>
  obtain⟨y0,g0⟩:=hf 0 _ v0 rfl rfl
  obtain⟨y1,g1⟩:=hf 1 _ v1 rfl rfl
  obtain⟨y2,g2⟩:=hf 2 _ v2 rfl rfl
  obtain⟨y3,g3⟩:=hf 3 _ v3 rfl rfl
  obtain⟨n0,e0,i0⟩:=qiy g0
  obtain⟨n1,e1,i1⟩:=qiy g1
  obtain⟨n2,e2,i2⟩:=qiy g2
  obtain⟨n3,e3,i3⟩:=qnW g3
  cases e0;cases e1;cases e2;cases e3
  exact⟨⟨n0,n1,n2,n3⟩,rfl,trivial,fun r hr=>by simp[mvE] at hr,i0,i1,i2,i3⟩
theorem qqb{r:Reach}{b0:Nat}{v:Value}{d:DataW H}{p:List MemPlace}(hv:Value.okWide Tryz.prog w r b0 68 v)(h:DataW.Trod enc Tryz.prog w base spare held 68 v d p) :
  ∃A c,∃l:List Mv,v=.slice A l.length c∧l.length≤c∧c≤maxLen∧Row w A (mvE.cells l)∧∀m∈l,qtB m:=by
 obtain⟨a,len,cap,rfl⟩:=okWide_slice Tryz.underlying68 hv
 obtain⟨fuel,hf⟩:=h
 haveI:Inhabited Mv:=⟨⟨0,0,0,0⟩⟩
 obtain⟨A,c,l,hcs,h1,h2,hb,hq⟩:=qlM mvE _ (by kernel_rfl) qpI hf
 simp[Value.cells] at hcs
 obtain⟨rfl,rfl,rfl⟩:=hcs
 exact⟨_,_,l,rfl,h1,h2,hb.1,hq⟩
end
end Go.Proofs.YtponbabbabnaeaaGreat
namespace Go.Proofs.YtponbabbabnaeaaGreat
open Go.RowKit
section
variable {w w':World} {B p:Nat} {col:Nat→Nat} {m:WM}
theorem WS.rebox(h:WS w B col p m):WS (w.alloc (.cells m.cells 59)) B (qdg col w.heap.size 1) w.heap.size m:=by
 have k:=h.keepB (Stp.newBox (cs:=[]) (c:=1) (v:=.cells m.cells 59) h.Bsz) (by decide) (qej h.z)
 exact⟨BIs.new _ _ _,qch,h.Bsz,k.z,k.vs,k.mem,k.down,k.told,k.sent,k.fly,k.ti,k.si⟩
theorem qi1{g:Nat}{vals:Array Value}{t:TypeId}(h:BIs w g vals t)(b:Below B w w')(hg:g<B):BIs w' g vals t:=h.same (b.block g hg)
theorem qm0(h:Ext w w'){w2:World}(b:Below w'.heap.size w' w2):Ext w w2:=h.trans b
theorem qsb{A:Option Addr}{l:List Mv}(h:Row w A (mvE.cells l))(hB:w.heap.size≤B):qtm B A (mvE.cells l):=fun q hne hq=>by
 obtain⟨b,o,h1,h2,_⟩:=h hne
 rw[h1] at hq;cases hq;show b<B;omega
theorem qnc{n:Int}{xs:List Int}{l:List Mv}{W:Wd}(hv:qan n xs=true)(h5:xs.length≤5)(hl:l.length≤200)(hm:W=qge (n,xs)) :
  (∀k w1,k≤l.length→qiN W (l.take k)=(w1,true)→FineW w1)∧∃H S,Sys n l.length (qiN W l).1 H S:=by
 subst hm
 have hb:=Sys.begin (v:=(n,xs)) hv h5
 refine⟨fun k w1 hk h1=>?_,?_⟩
 ·have hlk:(l.take k).length=k:=by rw[List.length_take];omega
  obtain⟨_,H,S,h2⟩:=Sys.run (l.take k) hb (by omega)
  rw[h1] at h2
  exact h2.fine (by omega)
 ·obtain⟨_,H,S,h2⟩:=Sys.run l hb (by omega)
  rw[Nat.zero_add] at h2
  exact⟨H,S,h2⟩
end
theorem quh{w:World}{B c:Nat}{col:Nat→Nat}{g n:Nat}{l:List TlM}{i:Nat}{t:TlM}(h:Arr tlE w B col c (.slice (some (Pq g 0)) l.length n) l)(ht:l[i]?=some t):w.cell? (Pq g i)=some (.slice t.A t.l.length t.c):=by
 have:=h.cell ht (j:=0) rfl;simpa[tlE] using this
theorem qnG{s:Nat}(h:s<4294967296)(h1:s % 2=1):bits .xor .u32 ((s:Int) / 2) 3988292384=((qhs s:Nat):Int):=by
 have h3:((s:Int) / 2)=((s / 2:Nat):Int):=by omega
 have:=u32_xor_nat (s / 2) 3988292384 (by omega) (by decide)
 rw[h3]
 unfold qhs
 rw[h1,Nat.mul_one]
 exact this
theorem qmE{s:Nat}(h1:¬s % 2=1):((s:Int) / 2)=((qhs s:Nat):Int):=by
 unfold qhs
 have:s % 2=0:=by omega
 rw[this,Nat.mul_zero,Nat.xor_zero];omega
theorem qsP{s:Nat}(h:s<4294967296):bits .and .u32 (s:Int) 1=((s % 2:Nat):Int):=by
 have:=u32_and_nat s 1 h (by decide)
 rw[Nat.and_one_is_mod] at this
 exact this
theorem qif(A:Option Addr)(c:Nat)(bs:List UInt8)(w:World)(h:Row w A (qad bs))(hl:bs.length≤1000000000) :
  Calls Tryz.prog 189 #[.slice A bs.length c] w fun e w'=>e=.returned (.int .u32 (qf5 bs:Int))∧w=w':=by
 have H:=hJ h;clear h
 go_enter Tryz.func189,Tryz.ntmps189
 go_wp2;go_loopw [3,4] (fun s i wr=>∃(k n:Nat),k≤bs.length∧i=Jq (k:Int)∧s=.int .u32 (n:Int)∧Hid (n=(bs.take k).foldl qsh 4294967295)∧w=wr) (fun _ i _=>bs.length - (intOf i).toNat)
 case atStart=>exact⟨0,4294967295,Nat.zero_le _,rfl,rfl,hJ rfl,rfl⟩
 case round=>
  obtain⟨k,n,hk,rfl,rfl,HN,rfl⟩:=hrel
  have hn:Hid (n<4294967296):=hJ (by rw[HN.out];exact qh1 _ _ (by decide))
  by_cases hlt:k<bs.length
  ·obtain⟨b,off,x,rfl,c0,HX⟩:=H.out.byte hlt
   have hcb:=qkT x hn.out
   have hfin:Hid (∀m j:Nat,m=qn3 j (n ^^^ x.toNat)→j≤8→¬j<8→m=(bs.take (k+1)).foldl qsh 4294967295):=hJ (by
    intro m j h1 h2 h3
    have h8:j=8:=by omega
    subst h8
    rw[h1,←qkc,HN.out,List.take_add_one,HX.out];simp)
   go_wp2;go_loopw [3,5] (fun s i wr=>∃(j m:Nat),j≤8∧i=Jq (j:Int)∧s=.int .u32 (m:Int)∧Hid (m=qn3 j (n ^^^ x.toNat))∧w=wr) (fun _ i _=>8 - (intOf i).toNat)
   case atStart=>exact⟨0,n ^^^ x.toNat,Nat.zero_le _,rfl,rfl,hJ rfl,by first|trivial|rfl⟩
   case round=>
    obtain⟨j,m,hj,rfl,rfl,HM,rfl⟩:=hrel
    have hm:Hid (m<4294967296):=hJ (by rw[HM.out];exact qkB _ _ (qeS x hn.out))
    by_cases hj8:j<8
    ·have hao:=qsP hm.out
     by_cases ho:m % 2=1
     ·have hs1:=qnG hm.out ho
      have hdd:(((m % 2:Nat):Int) == 1)=true:=by rw[ho];rfl
      go_wp2;go_roundw
      case rel=>exact⟨j+1,qhs m,by omega,by go_num,by first|rfl|(rw[hs1]),hJ (by rw[qgw,HM.out]),by first|trivial|rfl⟩
      case measure=>simp[intOf];omega
     ·have hs0:=qmE ho
      have hdd:(((m % 2:Nat):Int) == 1)=false:=by simp;omega
      go_wp2;go_roundw
      case rel=>exact⟨j+1,qhs m,by omega,by go_num,by first|rfl|(rw[hs0]),hJ (by rw[qgw,HM.out]),by first|trivial|rfl⟩
      case measure=>simp[intOf];omega
    ·go_wp2
     go_roundw
     case rel=>exact⟨k+1,m,by omega,by go_num,rfl,hJ (hfin.out m j HM.out hj hj8),by first|trivial|rfl⟩
     case measure=>simp[intOf];omega
  ·have hkl:k=bs.length:=by omega
   subst hkl
   go_wp2;go_ret
   refine⟨?_,rfl⟩
   have hx:=u32_xor_nat 4294967295 n (by decide) hn.out
   have hc:qf5 bs=4294967295 ^^^ n:=by unfold qf5;rw[HN.out,List.take_length]
   rw[hc,←hx]
   rfl
theorem qsm(v:Nat)(w:World):Own (w.alloc (.cells #[.int .u8 ((v:Int) % 256),.int .u8 ((v:Int) / 256 % 256),.int .u8 ((v:Int) / 65536 % 256),.int .u8 ((v:Int) / 16777216 % 256)] 5)) w.heap.size 5 (.slice (some (Pq w.heap.size 0)) 4 4) (qad (le4 v)):=by
 have e:qad (le4 v)=[.int .u8 ((v:Int) % 256),.int .u8 ((v:Int) / 256 % 256),.int .u8 ((v:Int) / 65536 % 256),.int .u8 ((v:Int) / 16777216 % 256)]:=by
  simp only[qad,le4,List.map_cons,List.map_nil,UInt8.toNat_ofNat']
  rw[show ((v % 2 ^ 8:Nat):Int)=(v:Int) % 256 by omega,show ((v / 256 % 2 ^ 8:Nat):Int)=(v:Int) / 256 % 256 by omega,show ((v / 65536 % 2 ^ 8:Nat):Int)=(v:Int) / 65536 % 256 by omega,show ((v / 16777216 % 2 ^ 8:Nat):Int)=(v:Int) / 16777216 % 256 by omega]
 rw[e]
 exact⟨rfl,.inr ⟨w.heap.size,4,_,rfl,Nat.le_refl _,(by show (w.heap.push _)[w.heap.size]?=_;simp;rfl),Nat.le_refl _,by unfold maxLen;decide,rfl,rfl⟩⟩
theorem qpV(n:Nat)(w:World):Calls Tryz.prog 188 #[.int .u32 (n:Int)] w (GivesB w (le4 n)):=by
 go_enter Tryz.func188,Tryz.ntmps188
 go_wp2;go_ret
 exact qc0 (qsm n w) (Ext.new _ _)
theorem qjT(p:List UInt8)(w:World)(hp:p.length≤100000000):Calls Tryz.prog 133 #[.string (qax p)] w (GivesB w (qd5 p)):=by
 have hn:Hid (p.length<U64):=hJ (by unfold U64;omega)
 have HL:=hJ (qat hn.out)
 have hsz:=qbq p
 have hw:IntKind.u64.wrap (p.length:Int)=(p.length:Int):=qcy hn.out
 go_enter Tryz.func133,Tryz.ntmps133
 go_wp2_with fail
 refine(qbO p.length w hn).mono ?_
 rintro e w1 ⟨A1,c1,rfl,hc1,hm1,ho1,hx1⟩
 have HO1:=hJ ho1;have X1:=hJ hx1
 clear ho1 hx1;have hl1:(qaS p.length).length≤11:=HL.out
 obtain⟨i0,hi,hz0,hz1,hz2⟩:=info_parts qcx
 go_wp2_with (first
  | (at_builtin;refine Go.Lib.wpList_append_own_string w1 rfl (.tmp 6) (.tmp 7) 29 9 rfl w.heap.size 5 i0 Tryz.underlying29 Tryz.underlying9 hi hz0 hz1 hz2 _ (qaS p.length).length (qad (qaS p.length)) (by rfl) (by have:=HO1.out;unfold Own at this;rw[qau] at this;exact this) (qax p) (by rfl) (by rw[qbq];unfold maxLen;omega) (by rw[qbq];omega) X1.out.size ?_;intro v2 w2 ho2 hg2 _))
 go_ret
 refine qc0 ?_ (Grew.below X1.out hg2 X1.out.size (fun k hk=>(HO1.out.lt k hk).1))
 have hb:qad (qd5 p)=qad (qaS p.length)++Go.Lib.strCells (qax p):=by rw[qfl,←qbJ];rfl
 unfold Own
 rw[hb,List.length_append,qau,Go.Lib.strCells_length]
 exact ho2
theorem qdx{ops:Array Oper}{rest:List Oper}{o:Oper}{a:Act}{Q:Exit→Act→World→Prop}(hgd:o.guard=none)(s x:Operand)
  (ho:o.op=.call {callee:=.builtin .append,args:=#[s,x],argTypes:=#[29,29]})
  (W w0:World) (A:Option Addr) (n c:Nat) (xs:List UInt8) (hs:a.eval s=.slice A n c) (A2:Option Addr) (m c2:Nat) (ys:List UInt8) (hx:a.eval x=.slice A2 m c2) (hm:m=ys.length) (hr:Hid (Row W A2 (qad ys)))
  (hown:Hid (Own W w0.heap.size 5 (.slice A n c) (qad xs))) (hl:xs.length+m<2000000000) (he:Hid (Ext w0 W))
  (h:∀A' c' w',(xs++ys).length≤c'→c'≤maxLen→Hid (Own w' w0.heap.size 5 (.slice A' (xs++ys).length c') (qad (xs++ys)))→Hid (Ext w0 w')→wpList Tryz.prog ops Q rest (a.put o.dst (.slice A' (xs++ys).length c')) w') :
  wpList Tryz.prog ops Q (o::rest) a W:=by
 refine qdn hgd s x _ 5 _ 1 ho Tryz.underlying29 qcx rfl (by decide) W w0.heap.size _ _ hs A2 m c2 (qad ys) hx (by rw[hm,qau]) hr.out (qdI _) hown.out (by rw[qau];exact hl) he.out.size ?_
 intro v w' ho' hg _
 rw[←qbJ] at ho'
 obtain⟨A',c',h1,h2,h3,_⟩:=ho'.slice
 rw[qau] at h1 h2
 subst h1
 exact h A' c' w' h2 h3 (hJ ho') (hJ (hg.below he.out he.out.size (fun k hk=>(hown.out.lt k hk).1)))
theorem qrv(k:Nat)(hk:k≤255)(w:World):Own (w.alloc (.cells #[.int .u8 65,.int .u8 71,.int .u8 (k:Int)] 5)) w.heap.size 5 (.slice (some (Pq w.heap.size 0)) 3 3) (qad [65,71,UInt8.ofNat k]):=by
 have e:qad [65,71,UInt8.ofNat k]=[.int .u8 65,.int .u8 71,.int .u8 (k:Int)]:=by
  simp only[qad,List.map_cons,List.map_nil,UInt8.toNat_ofNat']
  rw[show ((k % 2 ^ 8:Nat):Int)=(k:Int) by omega];rfl
 rw[e]
 exact⟨rfl,.inr ⟨w.heap.size,3,_,rfl,Nat.le_refl _,(by show (w.heap.push _)[w.heap.size]?=_;simp;rfl),Nat.le_refl _,by unfold maxLen;decide,rfl,rfl⟩⟩
set_option maxHeartbeats 1000000 in
theorem qmF(k:Nat)(A:Option Addr)(c:Nat)(body:List UInt8)(w:World)(h:Row w A (qad body))(hl:body.length≤100000000)(hk:1≤k∧k≤255) :
  Calls Tryz.prog 165 #[Jq (k:Int),.slice A body.length c] w fun e w'=>∃err,qqx w (qa2 k body) err e w':=by
 have H:=hJ h;clear h
 by_cases hb:body.length≤16777216
 ·have HF:Hid (qa2 k body=qd2 k body++le4 (qf5 (qd2 k body))):=hJ (by unfold qa2;rw[if_pos hb])
  have hn:Hid (body.length<U64):=hJ (by unfold U64;omega)
  have HL:=hJ (qat hn.out)
  have hw:IntKind.u64.wrap (body.length:Int)=(body.length:Int):=qcy hn.out
  have E0:Hid (Ext w (w.alloc (.cells #[.int .u8 65,.int .u8 71,.int .u8 (k:Int)] 5))):=hJ (Ext.new _ _)
  have P0:=hJ (qrv k hk.2 w)
  go_enter Tryz.func165,Tryz.ntmps165
  go_wp2_with fail
  refine(qbO body.length _ hn).mono ?_
  rintro e w1 ⟨A1,c1,rfl,hc1,hm1,ho1,hx1⟩
  have X1:=hJ (E0.out.trans hx1)
  have P1:=hJ (P0.out.ext hx1)
  have R1:=hJ ho1.row
  clear ho1 hx1 P0 E0;go_wp2_with (first
   | (at_builtin;refine qdx rfl (.tmp 20) (.tmp 24) rfl _ w _ 3 3 [65,71,UInt8.ofNat k] (by rfl) A1 (qaS body.length).length c1 (qaS body.length) (by rfl) rfl R1 P1 (by have:=HL.out;simp;omega) X1 ?_;intro A2 c2 w2 h21 h22 HO2 X2;have R2:=hJ (H.out.ext X2.out))
   | (at_builtin;refine qdx rfl (.tmp 26) (.tmp 27) rfl _ w A2 _ c2 ([65,71,UInt8.ofNat k]++qaS body.length) (by rfl) A body.length c body (by rfl) rfl R2 HO2 (by have:=HL.out;simp;omega) X2 ?_;intro A3 c3 w3 h31 h32 HO3 X3;rw[show [65,71,UInt8.ofNat k]++qaS body.length++body=qd2 k body from rfl] at h31 HO3⊢;have hpl:(qd2 k body).length≤100000100:=(by have:=HL.out;unfold qd2;simp;omega);have HR3:=hJ HO3.out.row)
   | fail)
  refine(qif A3 c3 (qd2 k body) w3 HR3.out (by omega)).mono ?_
  rintro e w4 ⟨rfl,rfl⟩
  go_wp2_with fail
  refine(qpV (qf5 (qd2 k body)) w3).mono ?_
  rintro e w5 ⟨A5,c5,rfl,hc5,hm5,ho5,hx5⟩
  have X5:=hJ (X3.out.trans hx5)
  have HO5:=hJ (HO3.out.ext hx5)
  have R5:=hJ ho5.row
  clear ho5 hx5;go_wp2_with (first
   | (at_builtin;refine qdx rfl (.tmp 29) (.tmp 32) rfl _ w A3 _ c3 (qd2 k body) (by rfl) A5 _ c5 (le4 (qf5 (qd2 k body))) (by rfl) rfl R5 HO5 (by simp[le4];omega) X5 ?_;intro A6 c6 w6 h61 h62 HO6 X6;rw[←HF.out] at h61 HO6⊢)
   | fail)
  go_ret2
  exact⟨0,A6,c6,rfl,h61,h62,HO6.out,X6.out⟩
 ·have HF:Hid (qa2 k body=[]):=hJ (by unfold qa2;rw[if_neg hb])
  go_enter Tryz.func165,Tryz.ntmps165
  go_wp2;go_ret2
  rw[HF.out]
  exact⟨1,none,0,rfl,Nat.le_refl _,Nat.zero_le _,Own.nil _ _ _,Ext.refl _⟩
set_option maxHeartbeats 1000000 in
theorem qhW(k:Nat)(s:Int)(A:Option Addr)(c:Nat)(body:List UInt8)(w:World)(h:Row w A (qad body))(hl:body.length≤90000000)(hk:1≤k∧k≤255) :
  Calls Tryz.prog 106 #[Jq (k:Int),Jq s,.slice A body.length c] w (GivesB w (qa2 k (qav [s]++body))):=by
 have H:=hJ h;clear h
 have hui:=qf1 s
 have hn:Hid (uN s<U64):=hJ (qic s)
 have HL:=hJ (qat hn.out)
 have hnum:qav [s]=qaS (uN s):=by simp[qav]
 rw[hnum];clear hnum
 go_enter Tryz.func106,Tryz.ntmps106
 go_wp2_with fail
 rw[←hui]
 refine(qbO (uN s) _ hn).mono ?_
 rintro e w1 ⟨A1,c1,rfl,hc1,hm1,ho1,hx1⟩
 have HO1:=hJ ho1;have X1:=hJ hx1
 have R1:=hJ (H.out.ext hx1)
 clear ho1 hx1 hui;go_wp2_with (first
  | (at_builtin;refine qdx rfl (.tmp 13) (.tmp 14) rfl _ w A1 _ c1 (qaS (uN s)) (by rfl) A body.length c body (by rfl) rfl R1 HO1 (by have:=HL.out;omega) X1 ?_;intro A2 c2 w2 h21 h22 HO2 X2;have R2:=hJ HO2.out.row;have hl2:(qaS (uN s)++body).length≤100000000:=(by have:=HL.out;simp;omega);generalize qaS (uN s)++body=B2 at *)
  | fail)
 refine(qmF k A2 c2 B2 w2 R2.out hl2 hk).mono ?_
 rintro e w3 ⟨err,A3,c3,rfl,h31,h32,ho3,hx3⟩
 have X3:=hJ (X2.out.trans hx3)
 have HO3:=hJ (ho3.base (B':=w.heap.size) X2.out.size)
 clear ho3 hx3;go_wp2;go_ret
 exact⟨A3,c3,rfl,h31,h32,HO3.out,X3.out⟩
set_option maxHeartbeats 1000000 in
theorem qil(s n:Int)(w:World):Calls Tryz.prog 37 #[Jq s,Jq n] w (GivesB w (qa2 13 (qav [s,n]))):=by
 have hui:=qf1 n
 have hn:Hid (uN n<U64):=hJ (qic n)
 have HL:=hJ (qat hn.out)
 have hnum:qav [s,n]=qav [s]++qaS (uN n):=by simp[qav]
 rw[hnum];clear hnum
 go_enter Tryz.func37,Tryz.ntmps37
 go_wp2_with fail
 rw[←hui]
 refine(qbO (uN n) _ hn).mono ?_
 rintro e w1 ⟨A1,c1,rfl,hc1,hm1,ho1,hx1⟩
 have R1:=hJ ho1.row;have X1:=hJ hx1
 clear ho1 hx1 hui;go_wp2_with fail
 refine(qhW 13 s A1 c1 (qaS (uN n)) w1 R1.out (by have:=HL.out;omega) (by omega)).mono ?_
 rintro e w2 ⟨A2,c2,rfl,h21,h22,ho2,hx2⟩
 have X2:=hJ (X1.out.trans hx2)
 have HO2:=hJ (ho2.base (B':=w.heap.size) X1.out.size)
 clear ho2 hx2;go_wp2;go_ret
 exact⟨A2,c2,rfl,h21,h22,HO2.out,X2.out⟩
set_option maxHeartbeats 1000000 in
theorem qjZ(A:Option Addr)(c:Nat)(l:List Ent)(w:World)(h:Row w A (qaz.cells l))(hn:l.length≤2000)(hp:∀e∈l,e.p.length≤6000) :
  Calls Tryz.prog 107 #[.slice A l.length c] w (GivesB w (qbd l)):=by
 have H:=hJ h;have HP:=hJ hp
 clear h hp;have hw:IntKind.u64.wrap (l.length:Int)=(l.length:Int):=qcy (by unfold U64;omega)
 have hln:Hid (l.length<U64):=hJ (by unfold U64;omega)
 have HL:=hJ (qat hln.out)
 have HS:Hid (qbd l=qaS l.length++(l.take l.length).flatMap qgQ):=hJ (by
  have h1:uN (l.length:Int)=l.length:=by unfold uN;omega
  unfold qbd;rw[List.take_length];simp[qav,h1])
 go_enter Tryz.func107,Tryz.ntmps107
 go_wp2_with fail
 refine(qbO l.length _ hln).mono ?_
 rintro e w1 ⟨A1,c1,rfl,hc1,hm1,ho1,hx1⟩
 have HO1:=hJ ho1;have X1:=hJ hx1
 clear ho1 hx1;go_wp2;go_loopw [3,4] (fun v i wr=>∃(k:Nat) (A':Option Addr) (c':Nat) (S:List UInt8),k≤l.length∧i=Jq k∧v=.slice A' S.length c'∧S.length≤10+6044*k+1∧Hid (S=qaS l.length++(l.take k).flatMap qgQ)∧S.length≤c'∧c'≤maxLen∧Hid (Own wr w.heap.size 5 (.slice A' S.length c') (qad S))∧Hid (Ext w wr)) (fun _ i _=>l.length - (intOf i).toNat)
 case atStart=>exact⟨0,A1,c1,qaS l.length,Nat.zero_le _,rfl,rfl,by have:=HL.out;omega,hJ (by simp),hc1,hm1,HO1,X1⟩
 case round=>
  obtain⟨k,A',c',S,hk,rfl,rfl,hS,HE,h1,h2,HO,HX⟩:=hrel
  by_cases hlt:k<l.length
  ·obtain⟨b,off,e,rfl,hb,k0,k1,k2,k3,HG⟩:=qbG (H.out.ext HX.out) hlt
   have hb':=hJ hb
   have hep:e.p.length≤6000:=HP.out e (List.mem_of_getElem? HG.out)
   have hu0:=qf1 e.v
   have hu1:=qf1 e.o
   have hu2:=qf1 e.q
   have n0:Hid (uN e.v<U64):=hJ (qic _)
   have n1:Hid (uN e.o<U64):=hJ (qic _)
   have n2:Hid (uN e.q<U64):=hJ (qic _)
   have L0:=hJ (qat n0.out)
   have L1:=hJ (qat n1.out)
   have L2:=hJ (qat n2.out)
   have HSn:Hid (S++qaS (uN e.v)++qaS (uN e.o)++qaS (uN e.q)++qd5 e.p=qaS l.length++(l.take (k+1)).flatMap qgQ):=hJ (by
    rw[qiU HG.out,HE.out];simp[qgQ,qav])
   have hfl:(S++qaS (uN e.v)++qaS (uN e.o)++qaS (uN e.q)++qd5 e.p).length≤10+6044*(k+1)+1:=by
    have a1:=qkM (e:=e) hep (by omega)
    have a2:(S++qaS (uN e.v)++qaS (uN e.o)++qaS (uN e.q)++qd5 e.p).length=S.length+(qgQ e).length:=by simp[qgQ,qav]<;>omega
    omega
   go_wp2_with fail
   rw[←hu0]
   refine(qbO (uN e.v) _ n0).mono ?_
   rintro e1 w2 ⟨A2,c2,rfl,hc2,hm2,ho2,hx2⟩
   have X2:=hJ (HX.out.trans hx2)
   have P2:=hJ (HO.out.ext hx2)
   have R2:=hJ ho2.row
   have j0:=X2
   clear ho2 hx2 hu0 hb k0 k1 k2 k3;obtain⟨b',off',e',hA2,hb2,k0,k1,k2,k3,HG2⟩:=qbG (H.out.ext X2.out) hlt
   cases hA2
   obtain rfl:e'=e:=by have:=HG.out;rw[HG2.out] at this;exact Option.some.inj this
   go_wp2_with (first
    | (at_builtin;refine qdx rfl (.tmp 15) (.tmp 22) rfl _ w A' _ c' S (by rfl) A2 _ c2 (qaS (uN e'.v)) (by rfl) rfl R2 P2 (by have:=L0.out;omega) X2 ?_;intro A3 c3 w3 h31 h32 HO3 X3;clear k0 k1 k2 k3 hb2 HG2;obtain⟨b3,off3,e3,hA3,hb3,k0,k1,k2,k3,HG3⟩:=qbG (H.out.ext X3.out) hlt;cases hA3;obtain rfl:e3=e':=(by have:=HG.out;rw[HG3.out] at this;exact Option.some.inj this);have s3:(S++qaS (uN e3.v)).length≤20000000:=(by have:=L0.out;simp;omega);generalize hS3:S++qaS (uN e3.v)=S3 at *)
    | fail)
   rw[←hu1]
   refine(qbO (uN e3.o) _ n1).mono ?_
   rintro e1 w4 ⟨A4,c4,rfl,hc4,hm4,ho4,hx4⟩
   have X4:=hJ (X3.out.trans hx4)
   have P4:=hJ (HO3.out.ext hx4)
   have R4:=hJ ho4.row
   clear ho4 hx4 hu1 hb3 k0 k1 k2 k3;obtain⟨b4,off4,e4,hA4,hb4,k0,k1,k2,k3,HG4⟩:=qbG (H.out.ext X4.out) hlt
   cases hA4
   obtain rfl:e4=e3:=by have:=HG.out;rw[HG4.out] at this;exact Option.some.inj this
   go_wp2_with (first
    | (at_builtin;refine qdx rfl (.tmp 24) (.tmp 31) rfl _ w A3 _ c3 S3 (by rfl) A4 _ c4 (qaS (uN e4.o)) (by rfl) rfl R4 P4 (by have:=L1.out;omega) X4 ?_;intro A5 c5 w5 h51 h52 HO5 X5;clear k0 k1 k2 k3 hb4 HG4;obtain⟨b5,off5,e5,hA5,hb5,k0,k1,k2,k3,HG5⟩:=qbG (H.out.ext X5.out) hlt;cases hA5;obtain rfl:e5=e4:=(by have:=HG.out;rw[HG5.out] at this;exact Option.some.inj this);have s5:(S3++qaS (uN e5.o)).length≤20000100:=(by have:=L1.out;simp;omega);generalize hS5:S3++qaS (uN e5.o)=S5 at *)
    | fail)
   rw[←hu2]
   refine(qbO (uN e5.q) _ n2).mono ?_
   rintro e1 w6 ⟨A6,c6,rfl,hc6,hm6,ho6,hx6⟩
   have X6:=hJ (X5.out.trans hx6)
   have P6:=hJ (HO5.out.ext hx6)
   have R6:=hJ ho6.row
   clear ho6 hx6 hu2 hb5 k0 k1 k2 k3;obtain⟨b6,off6,e6,hA6,hb6,k0,k1,k2,k3,HG6⟩:=qbG (H.out.ext X6.out) hlt
   cases hA6
   obtain rfl:e6=e5:=by have:=HG.out;rw[HG6.out] at this;exact Option.some.inj this
   go_wp2_with (first
    | (at_builtin;refine qdx rfl (.tmp 33) (.tmp 40) rfl _ w A5 _ c5 S5 (by rfl) A6 _ c6 (qaS (uN e6.q)) (by rfl) rfl R6 P6 (by have:=L2.out;omega) X6 ?_;intro A7 c7 w7 h71 h72 HO7 X7;clear k0 k1 k2 k3 hb6 HG6;obtain⟨b7,off7,e7,hA7,hb7,k0,k1,k2,k3,HG7⟩:=qbG (H.out.ext X7.out) hlt;cases hA7;obtain rfl:e7=e6:=(by have:=HG.out;rw[HG7.out] at this;exact Option.some.inj this);have s7:(S5++qaS (uN e7.q)).length≤20000200:=(by have:=L2.out;simp;omega);generalize hS7:S5++qaS (uN e7.q)=S7 at *)
    | fail)
   refine(qjT e7.p _ (by omega)).mono ?_
   rintro e1 w8 ⟨A8,c8,rfl,hc8,hm8,ho8,hx8⟩
   have X8:=hJ (X7.out.trans hx8)
   have P8:=hJ (HO7.out.ext hx8)
   have R8:=hJ ho8.row
   have s8:(qd5 e7.p).length≤6100:=by have:=qat (v:=e7.p.length) (by unfold U64;omega);unfold qd5;simp;omega
   clear ho8 hx8 k0 k1 k2 k3;go_wp2_with (first
    | (at_builtin;refine qdx rfl (.tmp 42) (.tmp 48) rfl _ w A7 _ c7 S7 (by rfl) A8 _ c8 (qd5 e7.p) (by rfl) rfl R8 P8 (by omega) X8 ?_;intro A9 c9 w9 h91 h92 HO9 X9;generalize hS9:S7++qd5 e7.p=S9 at *)
    | fail)
   go_roundw
   case rel=>exact⟨k+1,A9,c9,S9,by omega,by go_num,rfl,hfl,HSn,h91,h92,HO9,X9⟩
   case measure=>simp[intOf];omega
  ·have hkl:k=l.length:=by omega
   subst hkl
   go_wp2;go_ret
   have hES:=HE.out
   rw[←HS.out] at hES
   subst hES
   exact⟨A',c',rfl,h1,h2,HO.out,HX.out⟩
set_option maxHeartbeats 1000000 in
theorem qgg(s f t:Int)(A:Option Addr)(c:Nat)(l:List Ent)(w:World)(h:Row w A (qaz.cells l))(hn:l.length≤2000)(hp:∀e∈l,e.p.length≤6000) :
  Calls Tryz.prog 36 #[Jq s,Jq f,Jq t,.slice A l.length c] w (GivesB w (qa2 12 (qav [s,f,t]++qbd l))):=by
 have H:=hJ h;have HP:=hJ hp
 clear h hp;have hu0:=qf1 f
 have hu1:=qf1 t
 have n0:Hid (uN f<U64):=hJ (qic _)
 have n1:Hid (uN t<U64):=hJ (qic _)
 have L0:=hJ (qat n0.out)
 have L1:=hJ (qat n1.out)
 have hel:(qbd l).length≤12100000:=by
  have h1:=qfg HP.out
  have h2:=qaD [(l.length:Int)]
  unfold qbd
  simp only[List.length_append,List.length_cons,List.length_nil] at *
  omega
 have HS:Hid (qav [s,f,t]++qbd l=qav [s]++(qaS (uN f)++qaS (uN t)++qbd l)):=hJ (by simp[qav])
 go_enter Tryz.func36,Tryz.ntmps36
 go_wp2_with fail
 rw[←hu0]
 refine(qbO (uN f) _ n0).mono ?_
 rintro e w1 ⟨A1,c1,rfl,hc1,hm1,ho1,hx1⟩
 have HO1:=hJ ho1;have X1:=hJ hx1
 clear ho1 hx1 hu0;go_wp2_with fail
 rw[←hu1]
 refine(qbO (uN t) _ n1).mono ?_
 rintro e w2 ⟨A2,c2,rfl,hc2,hm2,ho2,hx2⟩
 have X2:=hJ (X1.out.trans hx2)
 have P2:=hJ (HO1.out.ext hx2)
 have R2:=hJ ho2.row
 clear ho2 hx2 hu1;go_wp2_with (first
  | (at_builtin;refine qdx rfl (.tmp 12) (.tmp 15) rfl _ w A1 _ c1 (qaS (uN f)) (by rfl) A2 _ c2 (qaS (uN t)) (by rfl) rfl R2 P2 (by have:=L0.out;have:=L1.out;omega) X2 ?_;intro A3 c3 w3 h31 h32 HO3 X3;have s3:(qaS (uN f)++qaS (uN t)).length≤100:=(by have:=L0.out;have:=L1.out;simp;omega);generalize hS3:qaS (uN f)++qaS (uN t)=S3 at *)
  | fail)
 refine(qjZ A c l w3 (H.out.ext X3.out) hn HP.out).mono ?_
 rintro e w4 ⟨A4,c4,rfl,hc4,hm4,ho4,hx4⟩
 have X4:=hJ (X3.out.trans hx4)
 have P4:=hJ (HO3.out.ext hx4)
 have R4:=hJ ho4.row
 clear ho4 hx4;go_wp2_with (first
  | (at_builtin;refine qdx rfl (.tmp 18) (.tmp 20) rfl _ w A3 _ c3 S3 (by rfl) A4 _ c4 (qbd l) (by rfl) rfl R4 P4 (by omega) X4 ?_;intro A5 c5 w5 h51 h52 HO5 X5;have s5:(S3++qbd l).length≤90000000:=(by simp;omega);generalize hS5:S3++qbd l=S5 at *)
  | fail)
 refine(qhW 12 s A5 c5 S5 w5 HO5.out.row s5 (by omega)).mono ?_
 rintro e w6 ⟨A6,c6,rfl,h61,h62,ho6,hx6⟩
 have X6:=hJ (X5.out.trans hx6)
 have HO6:=hJ (ho6.base (B':=w.heap.size) X5.out.size)
 clear ho6 hx6;rw[←HS.out] at h61 HO6⊢
 go_wp2;go_ret
 exact⟨A6,c6,rfl,h61,h62,HO6.out,X6.out⟩
def frA:List UInt8:=[65,71,12,9,0,1,0,1,0,1,1,1,121]++le4 (qf5 [65,71,12,9,0,1,0,1,0,1,1,1,121])
def frB:List UInt8:=[65,71,13,2,0,2]++le4 (qf5 [65,71,13,2,0,2])
theorem qgu{n:Nat}(h:n<128):qaS (uN (n:Int))=[UInt8.ofNat n]:=by
 have:uN (n:Int)=n:=by unfold uN;omega
 rw[this,qee h]
theorem qpY:qa2 12 (qav [0,1,0]++qbd [⟨0,1,1,[121]⟩])=frA:=by
 have e0:qaS (uN 0)=[0]:=qgu (n:=0) (by omega)
 have e1:qaS (uN 1)=[1]:=qgu (n:=1) (by omega)
 have e2:qaS 1=[1]:=qee (by omega)
 have e9:qaS 9=[9]:=qee (by omega)
 have hb:qav [0,1,0]++qbd [⟨0,1,1,[121]⟩]=[0,1,0,1,0,1,1,1,121]:=by
  simp[qav,qbd,qgQ,qd5,e0,e1,e2]
 rw[hb]
 unfold qa2
 rw[if_pos (by decide)]
 have hp:qd2 12 [0,1,0,1,0,1,1,1,121]=[65,71,12,9,0,1,0,1,0,1,1,1,121]:=by
  show [65,71,UInt8.ofNat 12]++qaS 9++_=_
  rw[e9];rfl
 rw[hp];rfl
theorem qoZ:qa2 13 (qav [0,2])=frB:=by
 have e0:qaS (uN 0)=[0]:=qgu (n:=0) (by omega)
 have e2:qaS (uN 2)=[2]:=qgu (n:=2) (by omega)
 have e9:qaS 2=[2]:=qee (by omega)
 have hb:qav [0,2]=[0,2]:=by
  simp[qav,e0,e2]
 rw[hb]
 unfold qa2
 rw[if_pos (by decide)]
 have hp:qd2 13 [0,2]=[65,71,13,2,0,2]:=by
  show [65,71,UInt8.ofNat 13]++qaS 2++_=_
  rw[e9];rfl
 rw[hp];rfl
theorem qoO:qa3 frA=some ⟨12,0,1,0,[],[⟨0,1,1,[121]⟩]⟩:=by decide +kernel
theorem qo1:qa3 frB=some ⟨13,0,2,0,[],[]⟩:=by decide +kernel
def gA:St:=(qba (0,[1,2,3]) 1).1
def gB:St:=(qba (0,[1,2,3]) 2).1
def gS:St:=(qba (0,[4]) 4).1
def sA:St:=(qaY gA [121]).1
def sS:St:=(qaY gS [120]).1
def qtO:Msg:=⟨12,0,1,0,[],[⟨0,1,1,[121]⟩]⟩
def qtX:Msg:=⟨13,0,2,0,[],[]⟩
def tS:Cs:=qbM sS
def rB:Cs:=qaM ⟨gB,[],[]⟩ qtO
def rA:Cs:=qcC ⟨sA,[],[]⟩ 2 2
theorem qj2:(qba (0,[1,2,3]) 1).2=0∧(qba (0,[1,2,3]) 2).2=0∧(qba (0,[4]) 4).2=0:=by decide +kernel
theorem qot:(qaY gA [121]).2=0∧(qaY gS [120]).2=0:=by decide +kernel
theorem qr2:qbp gA=true∧qbp gB=true∧qbp gS=true:=by decide +kernel
theorem qn4:qbp sA=true∧qbp sS=true:=by decide +kernel
theorem qta:qaN gB=false∧1=qbl (qaf gB.views)∧qtO.num=(qaf gB.views).1:=by decide +kernel
theorem qsZ:qaN sA=true∧qbr (qaf sA.views).2 2=true∧qtX.num=(qaf sA.views).1∧sA.marks=[]:=by decide +kernel
theorem qsu:tS.dl.length=2∧(tS.dl[1]?).map (fun e=>(e.p,e.o))=some ([120],4)∧tS.s.pend=[]:=by decide +kernel
theorem qtb:rB.s.log.length=2∧rB.s.stable=0:=by decide +kernel
theorem qs7:rA.dl.length=2∧rA.s.stable=2:=by decide +kernel
theorem qtF:qaP ⟨gB,[],[]⟩ 1 ⟨12,0,1,0,[],[⟨0,1,1,[121]⟩]⟩=rB:=by decide +kernel
theorem qtv:qaP ⟨sA,[],[]⟩ 2 ⟨13,0,2,0,[],[]⟩=rA:=by decide +kernel
end Go.Proofs.YtponbabbabnaeaaGreat
