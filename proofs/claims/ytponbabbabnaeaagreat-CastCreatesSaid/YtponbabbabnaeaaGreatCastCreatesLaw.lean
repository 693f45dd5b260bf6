/- CastCreates: in every schedule each delivered entry is the entry of a decided view, or was submitted by its origin, with consecutive numbers for each origin. Conditions: none beyond the statement's own. -/
import Derived.Deep.OwnRows
import Derived.Test.YtponbabbabnaeaaGreatQe01
import Derived.Test.YtponbabbabnaeaaGreatQe26
import Derived.Test.YtponbabbabnaeaaGreatQe27
set_option maxRecDepth 100000
namespace Go.Proofs.YtponbabbabnaeaaGreat.castCreates
open Go.RowKit
/-- what next holds: how many entries of each member have been met -/
def qub(mem:List BM)(t:List Ent)(j:Nat)(nx:List Nat):Prop:=nx.length=mem.length∧∀(o:Nat) (b:BM),mem[o]?=some b→nx[o]?=some (qay (t.take j) b.self)
def nxV(nx:List Nat):Array Value:=(nx.map fun n:Nat=>Value.int .i64 (n:Int)).toArray
theorem qui(mem:List BM)(t:List Ent):qub mem t 0 (List.replicate mem.length 0):=by
 refine⟨List.length_replicate,fun o b hb=>?_⟩
 rw[List.getElem?_replicate,if_pos (List.getElem?_eq_some_iff.1 hb).1];rfl
theorem quj(n:Nat)(hn:n≤1000000)(W:World):(Instr.makeSlice 44 (Jq (n:Int)) (Jq (n:Int))).run Tryz.prog W=.ok (.slice (some (Pq W.heap.size 0)) n n) (W.alloc (.cells (nxV (List.replicate n 0)) 3)):=by
 have h:=run_make_row' (P:=Tryz.prog) 44 3 (Jq 0) 8 Tryz.underlying44 qo9.info rfl .i64 .i64 n (by omega) (by omega) W
 rw[h]
 have e:madeCells #[Value.int .i64 0] n=nxV (List.replicate n 0):=by
  unfold nxV
  rw[List.map_replicate]
  apply Array.ext
  ·simp[size_madeCells]
  ·intro i h1 h2
   simp[madeCells,Nat.mod_one]
 rw[e]
theorem qt5{t:List Ent}{j:Nat}{e:Ent}(he:t[j]?=some e)(o:Int):qay (t.take (j+1)) o=qay (t.take j) o+if e.o=o then 1 else 0:=by
 rw[List.take_add_one,he,qeu]
 congr 1
 unfold qay
 by_cases h:e.o=o<;>simp[h]
section
variable {v0:Int} {k:Nat} {H:qeP} {S:qf6} {m:WM}
theorem qgA{o:Nat}{b:BM}(hb:m.mem[o]?=some b):m.wd.mem[o]?=some b.st:=by simp only[WM.wd,List.getElem?_map,hb];rfl
theorem qug(h:Sys v0 k m.wd H S){t:List Ent}{j:Nat}{nx:List Nat}{e:Ent}(hn:qub m.mem t j nx)(he:t[j]?=some e)(ho:e.o=0):qub m.mem t (j+1) nx:=by
 refine⟨hn.1,fun o b hb=>?_⟩
 have h1:=(h.core.here (qgA hb)).2.1.self
 unfold qb2 at h1
 simp only[Bool.and_eq_true,decide_eq_true_eq] at h1
 have h2:b.st.self=b.self:=rfl
 rw[qt5 he,if_neg (by omega),Nat.add_zero]
 exact hn.2 o b hb
theorem que(h:Sys v0 k m.wd H S){t:List Ent}{j:Nat}{nx:List Nat}{e:Ent}{i:Nat}{b:BM}(hn:qub m.mem t j nx)(he:t[j]?=some e)(hb:m.mem[i]?=some b)(hs:b.self=e.o):qub m.mem t (j+1) (nx.set i (qay (t.take j) e.o+1)):=by
 have hi:=(List.getElem?_eq_some_iff.1 hb).1
 refine⟨by rw[List.length_set];exact hn.1,fun o q hq=>?_⟩
 rw[qt5 he]
 by_cases hio:i=o
 ·subst hio
  rw[hb] at hq;cases hq
  rw[List.getElem?_set_self (by rw[hn.1];exact hi),if_pos hs.symm,hs]
 ·rw[List.getElem?_set_ne hio,if_neg (fun e'=>?_),Nat.add_zero]
  ·exact hn.2 o q hq
  ·have hnd:=h.core.ids
   have h1:(m.wd.mem.map St.self)[i]?=some b.self:=by rw[List.getElem?_map,qgA hb];rfl
   have h2:(m.wd.mem.map St.self)[o]?=some q.self:=by rw[List.getElem?_map,qgA hq];rfl
   obtain⟨l1,g1⟩:=List.getElem?_eq_some_iff.1 h1
   obtain⟨l2,g2⟩:=List.getElem?_eq_some_iff.1 h2
   exact hio (qjp hnd l1 l2 (by rw[g1,g2,hs,e']))
theorem qt6(h:Sys v0 k m.wd H S){i:Nat}{t:TlM}{j:Nat}{e:Ent}(ht:m.told[i]?=some t)(he:t.l[j]?=some e) :
  (e.o=0→∃(n:Nat) (v:VwM),n<m.vs.length∧e.v=v0+n∧m.vs[n]?=some v∧e=qab v.n v.xs∧v.xs.length≤16)∧
  (e.o≠0→∃(o:Nat) (b:BM) (s:SnM),qhH m.wd e.o=(o:Int)∧m.mem[o]?=some b∧b.self=e.o∧m.sent[o]?=some s∧e.q=(qay (t.l.take j) e.o:Int)+1∧s.l[qay (t.l.take j) e.o]?=some e.p):=by
 obtain⟨h1,h2⟩:=h.creates (i:=i) (t:=t.l) (by simp only[WM.wd,List.getElem?_map,ht];rfl) he
 refine⟨fun h0=>?_,fun h0=>?_⟩
 ·obtain⟨n,hn,hv,hx⟩:=h1 h0
  have hn':n<m.vs.length:=by simpa[WM.wd,qaI] using hn
  have hg:=List.getElem?_eq_getElem hn'
  have hw:qbB m.wd.views n=(m.vs[n]).v:=by
   unfold qbB
   rw[show m.wd.views=vws m.vs from rfl,qfZ hg];rfl
  refine⟨n,_,hn',hv,hg,by rw[hx,hw];rfl,?_⟩
  have hin:qbB m.wd.views n∈m.wd.views:=by rw[qdW hn];exact List.getElem_mem hn
  have:=(qaH (qb7 h.core.vld hin).2.2.1).2
  rw[hw] at this;exact this
 ·obtain⟨o,s,l,q1,q2,q3,q4,q5,q6⟩:=h2 h0
  simp only[WM.wd,List.getElem?_map] at q2 q4
  obtain⟨b,hb,rfl⟩:=Option.map_eq_some_iff.1 q2
  obtain⟨u,hu,rfl⟩:=Option.map_eq_some_iff.1 q4
  exact⟨o,b,u,q1,hb,q3,hu,q5,q6⟩
end
section
variable {w:World} {B p:Nat} {col:Nat→Nat}
theorem qt9{g:Nat}{a b c d:Value}{t:TypeId}(h:BIs w g #[a,b,c,d] t):w.cell? (Pq g 0)=some a∧w.cell? (Pq g 1)=some b∧w.cell? (Pq g 2)=some c∧w.cell? (Pq g 3)=some d:=⟨h.cell 0,h.cell 1,h.cell 2,h.cell 3⟩
theorem qtZ{c n:Nat}{g:Nat}{l:List VwM}{i:Nat}{v:VwM}(h:Arr qas w B col c (.slice (some (Pq g 0)) l.length n) l)(hv:l[i]?=some v):w.cell? (Pq g (i*2))=some (Jq v.n)∧w.cell? (Pq g (i*2+1))=some (.slice v.A v.xs.length v.c):=
 ⟨h.cell hv (j:=0) rfl,h.cell hv (j:=1) rfl⟩
theorem qun{c n:Nat}{A:Option Addr}{l:List VwM}{i:Nat}{v:VwM}(h:Arr qas w B col c (.slice A l.length n) l)(hv:l[i]?=some v):∃g,A=some (Pq g 0)∧w.cell? (Pq g (i*2))=some (Jq v.n)∧w.cell? (Pq g (i*2+1))=some (.slice v.A v.xs.length v.c):=by
 obtain⟨g,k,hs,_⟩:=h.addr (by have:=(List.getElem?_eq_some_iff.1 hv).1;omega)
 simp only[Value.slice.injEq,true_and] at hs
 obtain⟨rfl,rfl⟩:=hs
 exact⟨g,rfl,qtZ h hv⟩
theorem qum{c n:Nat}{A:Option Addr}{l:List VwM}{i:Nat}{v:VwM}(h:Arr qas w B col c (.slice A l.length n) l)(hv:l[i]?=some v):Row w v.A (qam v.xs):=((h.inn v (List.mem_of_getElem? hv)).2 (v.A,qam v.xs) (by simp[qas])).1
theorem qt2{m:WM}{i q a o:Nat}{s:SnM}{x:List UInt8}(h:WS w B col p m)(hs:m.sent[i]?=some s)(hx:s.l[q]?=some x)(hA:s.A=some (Pq a o)):w.cell? (Pq a (o+q))=some (.string (qax x)):=by
 have hr:=(h.si i s hs).1.row
 rw[hA] at hr
 have hc:=qda.cells_at hx 0 (by decide)
 rw[show qda.k=1 from rfl,Nat.mul_one,Nat.add_zero] at hc
 exact hr.get hc
theorem qud{m:WM}{i q:Nat}{s:SnM}{x:List UInt8}(h:WS w B col p m)(hs:m.sent[i]?=some s)(hx:s.l[q]?=some x):∃a o,s.A=some (Pq a o)∧w.cell? (Pq a (o+q))=some (.string (qax x)):=by
 have hr:=(h.si i s hs).1.row
 obtain⟨a,o,h1,_,_⟩:=hr (fun e=>by
  have h9:=qda.cells_len s.l
  have h10:=(List.getElem?_eq_some_iff.1 hx).1
  rw[e,List.length_nil,show qda.k=1 from rfl] at h9
  omega)
 exact⟨a,o,h1,qt2 h hs hx h1⟩
theorem qt8{g i c:Nat}{nx:List Nat}{t:TypeId}(h:BIs w g (nxV nx) t)(hc:nx[i]?=some c):w.cell? (Pq g i)=some (Jq (c:Int)):=by
 rw[h.cell];unfold nxV;simp[hc]
theorem quk{g i c:Nat}{nx:List Nat}{t:TypeId}(h:BIs w g (nxV nx) t):BIs (w.setCell (Pq g i) (Jq ((c:Int)+1))) g (nxV (nx.set i (c+1))) t:=by
 have h1:=h.set i (Jq ((c:Int)+1))
 have e:(nxV nx).setIfInBounds i (Jq ((c:Int)+1))=nxV (nx.set i (c+1)):=by
  unfold nxV
  rw[List.setIfInBounds_toArray,List.map_set];rfl
 rwa [e] at h1
end
set_option maxHeartbeats 4000000 in
theorem walk0(n:Int)(A:Option Addr)(c:Nat)(xs:List Int)(D:Option Addr)(d:Nat)(l:List Mv)(w:World)(hr:Row w A (qam xs))(hcm:xs.length≤c∧c≤maxLen)(hx:xs.length≤9223372036854775807)(hl:Row w D (mvE.cells l))(hq:∀m∈l,m.kind<256∧m.a<256∧m.cut<256∧m.n<65536)(hi64:I64 n) :
  Calls Tryz.prog 8 #[.agg #[Jq n,.slice A xs.length c],.slice D l.length d] w fun e w'=>e=.returned (.bool true)∧Ext w w':=by
 have XX:Hid (Ext w (w.alloc (.cells #[Jq n,.slice A xs.length c] 46))):=hJ (Ext.new _ _)
 have W_x:=hJ (hr.ext XX.out);have W_l:=hJ (hl.ext XX.out);have HQ:=hJ hq
 have HOL:Hid (∀X,w.heap.size≤X→qtm X D (mvE.cells l)):=hJ (fun X hX=>qsb hl hX)
 have B_v:Hid (BIs (w.alloc (.cells #[Jq n,.slice A xs.length c] 46)) w.heap.size #[Jq n,.slice A xs.length c] 46):=hJ (BIs.new _ _ _)
 clear hr hl hq;go_enter Tryz.func8,Tryz.ntmps8
 go_wp2_with fail
 generalize (w.alloc (.cells #[Jq n,.slice A xs.length c] 46))=u1 at *
 refine(qj4 _).mono ?_
 rintro e w1 ⟨rfl,hx1⟩
 replace B_v:=hJ (B_v.out.ext hx1);replace W_x:=hJ (W_x.out.ext hx1);replace W_l:=hJ (W_l.out.ext hx1);replace XX:=hJ (XX.out.trans hx1)
 clear hx1;have v0:w1.cell? (Pq w.heap.size 0)=some (Jq n):=B_v.out.cell 0
 have v1:w1.cell? (Pq w.heap.size 1)=some (.slice A xs.length c):=B_v.out.cell 1
 go_wp2_with fail
 refine(qfz n A c xs _ W_x.out hx).mono ?_
 rintro e w2 ⟨rfl,hx2⟩
 replace B_v:=hJ (B_v.out.ext hx2);replace W_x:=hJ (W_x.out.ext hx2);replace W_l:=hJ (W_l.out.ext hx2);replace XX:=hJ (XX.out.trans hx2)
 clear hx2 v0 v1;have v0:w2.cell? (Pq w.heap.size 0)=some (Jq n):=B_v.out.cell 0
 have v1:w2.cell? (Pq w.heap.size 1)=some (.slice A xs.length c):=B_v.out.cell 1
 by_cases hv:qan n xs=true
 rotate_left
 ·have hv':qan n xs=false:=by simpa using hv
  rw[hv']
  go_wp2;go_ret
  exact⟨rfl,XX.out⟩
 rw[hv]
 have HV:=hJ hv
 clear hv;by_cases h5:5<xs.length
 ·have h5':(5:Int)<(xs.length:Int):=by omega
  go_wp2;go_ret
  exact⟨rfl,XX.out⟩
 have h5':decide ((5:Int)<(xs.length:Int))=false:=by simp only[decide_eq_false_iff_not];omega
 have hx5:xs.length≤5:=by omega
 clear h5;by_cases h1:1000<n
 ·skip
  go_wp2;go_ret
  exact⟨rfl,XX.out⟩
 have h1':decide ((1000:Int)<n)=false:=by simp only[decide_eq_false_iff_not];omega
 clear h1;by_cases h2:200<l.length
 ·have h2':(200:Int)<(l.length:Int):=by omega
  go_wp2;go_ret
  exact⟨rfl,XX.out⟩
 have h2':decide ((200:Int)<(l.length:Int))=false:=by simp only[decide_eq_false_iff_not];omega
 have hl2:l.length≤200:=by omega
 clear h2;go_wp2_with fail
 refine(qmM n A c xs _ W_x.out hcm.1 hcm.2 (by omega)).mono ?_
 rintro e w4 ⟨m,col,p0,rfl,ws,wd,bl⟩
 obtain⟨HFI,H,S,HSY⟩:=qnc (W:=m.wd) HV.out hx5 hl2 wd
 replace HFI:=hJ HFI;replace HSY:=hJ HSY
 clear wd h5' h1' h2' v0 v1;have C4:=hJ ws;have BL:=hJ bl
 have X4:Hid (Ext w w4):=hJ (qm0 XX.out bl)
 have WX4:Hid (Row w4 A (qam xs)):=hJ (W_x.out.ext bl);have WL4:Hid (Row w4 D (mvE.cells l)):=hJ (W_l.out.ext bl)
 have BV4:=hJ (qi1 B_v.out bl B_v.out.lt)
 have HO:=hJ (HOL.out w2.heap.size XX.out.size)
 have HVB:=hJ B_v.out.lt;have HWS:=hJ XX.out.size
 clear ws bl XX W_x W_l B_v HOL BL;have C5:=hJ C4.out.rebox
 have XN:=hJ (Ext.new w4 (.cells m.cells 59))
 replace X4:=hJ (X4.out.trans XN.out);replace WL4:=hJ (WL4.out.ext XN.out);replace BV4:=hJ (BV4.out.ext XN.out)
 clear C4 XN WX4;unfold WM.cells at *
 go_wp2_with fail
 generalize (w4.alloc (.cells #[.slice m.Av m.vs.length m.cv,.slice m.Am m.mem.length m.cm,.slice m.Ad m.down.length m.cd,.slice m.At m.told.length m.ct,.slice m.As m.sent.length m.cs,.slice m.Af m.fly.length m.cf] 59))=w5 at *
 generalize qdg col w4.heap.size 1=col5 at *
 generalize w4.heap.size=p at *
 refine(qss m w2.heap.size col5 p D d l _ C5.out WL4.out HO.out (by omega) HQ.out HFI.out).mono ?_
 rintro e w6 ⟨m6,col6,rfl,ws6,wd6,bl6⟩
 rw[←wd6] at HSY
 have C:=hJ ws6;have XX:Hid (Ext w w6):=hJ (Below.trans X4.out (bl6.mono HWS.out))
 have B_v:=hJ (qi1 BV4.out bl6 HVB.out)
 clear ws6 wd6 bl6 HWS X4 WL4 BV4 HO HVB C5 HFI HQ;obtain⟨Av,cv,vs,Am,cm,mem,Ad,cd,down,At,ct,told,As,cs,sent,Af,cf,fly⟩:=m6
 have FN:=hJ (HSY.out.fine (by omega))
 have f1:=FN.out.ml;have f2:=FN.out.dl;have f3:=FN.out.tl;have f4:=FN.out.sl;have f5:=FN.out.vl
 simp only[WM.wd,List.length_map,qaI] at f1 f2 f3 f4 f5
 have HTL:Hid (∀t∈told,t.l.length≤100000):=hJ (fun t ht=>FN.out.told t.l (List.mem_map_of_mem ht))
 obtain⟨gm,_,hAm,_⟩:=qf3 C.out.mem (i:=0) (by simp only;omega)
 simp only at hAm
 subst hAm
 obtain⟨gt,_,hAt,_,_⟩:=qq4 C.out.told (i:=0) (by simp only;omega)
 simp only at hAt
 subst hAt
 obtain⟨gs,_,hAs,_,_⟩:=qtw C.out.sent (i:=0) (by simp only;omega)
 simp only at hAs
 subst hAs
 have HI64:Hid (I64 n):=hJ hi64
 clear hi64;have C6:=C;have X6:=XX;have B6:=B_v
 clear C XX B_v;go_wp2;go_loopw [6] (fun i wr=>∃k:Nat,k≤told.length∧i=Jq k∧Hid (Ext w6 wr)) (fun i _=>told.length - (intOf i).toNat)
 case atStart=>exact⟨0,Nat.zero_le _,rfl,hJ (Ext.refl _)⟩
 case round=>
  obtain⟨k,hk,rfl,XR⟩:=hrel
  obtain⟨wo,rfl⟩:∃x,x=wr:=⟨wr,rfl⟩
  have C:=hJ (C6.out.ext XR.out)
  obtain⟨_,z1,_,z3,_⟩:=qaB C.out
  simp only at z1 z3
  by_cases hlt:k<told.length
  rotate_left
  ·have hkk:k=told.length:=by omega
   subst hkk
   go_wp2;go_ret
   exact⟨rfl,X6.out.trans XR.out⟩
  obtain⟨t,ht⟩:∃t,told[k]?=some t:=⟨_,List.getElem?_eq_getElem hlt⟩
  have HT:=hJ ht;have htl:=HTL.out t (List.mem_of_getElem? ht)
  clear ht;have hmk:∀W:World,(Instr.makeSlice 44 (Jq (mem.length:Int)) (Jq (mem.length:Int))).run Tryz.prog W=.ok (.slice (some (Pq W.heap.size 0)) mem.length mem.length) (W.alloc (.cells (nxV (List.replicate mem.length 0)) 3)):=fun W=>quj mem.length (by omega) W
  go_upto_region 12 with fail
  have EA:Hid (Ext wo (wo.alloc (.cells (nxV (List.replicate mem.length 0)) 3))):=hJ (Ext.new _ _)
  have BN:Hid (BIs (wo.alloc (.cells (nxV (List.replicate mem.length 0)) 3)) wo.heap.size (nxV (List.replicate mem.length 0)) 3):=hJ (BIs.new _ _ _)
  have XN:Hid (Ext w6 (wo.alloc (.cells (nxV (List.replicate mem.length 0)) 3))):=hJ (XR.out.trans EA.out)
  have HNB:Hid (w6.heap.size≤wo.heap.size):=hJ XR.out.size
  clear EA C z1 z3;generalize (wo.alloc (.cells (nxV (List.replicate mem.length 0)) 3))=w8 at *
  generalize wo.heap.size=nb at *
  clear XR;have HNX:Hid (qub mem t.l 0 (List.replicate mem.length 0)):=hJ (qui mem t.l)
  go_wp2;go_loopw [8] (fun i wr=>∃(j:Nat) (nx:List Nat),j≤t.l.length∧i=Jq j∧Hid (qub mem t.l j nx)∧Hid (BIs wr nb (nxV nx) 3)∧Hid (Ext w6 wr)) (fun i _=>t.l.length - (intOf i).toNat)
  case atStart=>exact⟨0,_,Nat.zero_le _,rfl,HNX,BN,XN⟩
  case round=>
   clear BN XN HNX;obtain⟨j,nx,hj,rfl,HNX,BN,XN⟩:=hrel
   have C:=hJ (C6.out.ext XN.out)
   have z3:=(qaB C.out).2.2.2.1
   simp only at z3
   have tc:=quh C.out.told HT.out
   by_cases hjl:j<t.l.length
   rotate_left
   ·have hjj:j=t.l.length:=by omega
    subst hjj
    go_wp2;go_roundw
    case rel=>exact⟨k+1,by omega,by go_num,XN⟩
    case measure=>simp[intOf];omega
   obtain⟨be,oe,en,hAe,_,c0,c1,c2,c3,HE⟩:=qbG (C.out.ti k t HT.out).1.row hjl
   obtain⟨hz,hnz⟩:=qt6 HSY.out HT.out HE.out
   replace hz:=hJ hz;replace hnz:=hJ hnz
   rw[hAe] at tc
   have EA:Hid (Ext wr (wr.alloc (.cells #[Jq en.v,Jq en.o,Jq en.q,.string (qax en.p)] 66))):=hJ (Ext.new _ _)
   have BE:Hid (BIs (wr.alloc (.cells #[Jq en.v,Jq en.o,Jq en.q,.string (qax en.p)] 66)) wr.heap.size #[Jq en.v,Jq en.o,Jq en.q,.string (qax en.p)] 66):=hJ (BIs.new _ _ _)
   have XE:=hJ (XN.out.trans EA.out);have BNE:=hJ (BN.out.ext EA.out)
   clear EA;by_cases ho:en.o=0
   ·have ho':(en.o == 0)=true:=by simpa using ho
    obtain⟨at_,v,hal,hav,hvx,hev,hv16⟩:=hz.out ho
    have HVX:=hJ hvx;have HEV:=hJ hev;have HO0:=hJ ho
    replace hal:at_<vs.length:=hal
    have hat:IntKind.i64.wrap (en.v - n)=(at_:Int):=by rw[hav,show n+(at_:Int) - n=at_ by omega];exact IntWalk.i64_in _ (by omega)
    clear hvx hev ho hav;go_upto_region 16 with fail
    generalize (wr.alloc (.cells #[Jq en.v,Jq en.o,Jq en.q,.string (qax en.p)] 66))=w9 at *
    generalize wr.heap.size=re at *
    have C9:=hJ (C6.out.ext XE.out)
    have b0:w9.cell? (Pq w.heap.size 0)=some (Jq n):=(B6.out.ext XE.out).cell 0
    obtain⟨e0,e1,e2,e3⟩:=qt9 BE.out
    go_upto_region 18 with fail
    clear b0 e0 e1 e2 e3 c0 c1 c2 c3 z3 tc hat;obtain⟨gv,hAv,va,vb⟩:=qun C9.out.vs HVX.out
    simp only at hAv
    subst hAv
    have hn0:¬(at_:Int)<0:=by omega
    have hn1:¬(vs.length:Int)≤(at_:Int):=by omega
    have hn2:(at_:Int)<(vs.length:Int):=by omega
    have hq:=fun W=>qm6 en (qab v.n v.xs) W
    unfold qjG at hq
    rw[decide_eq_true HEV.out] at hq
    refine qac 19 (fun w'=>Cq w' p 0 (.slice (some (Pq gv 0)) vs.length cv)∧Cq w' gv (at_*2) (Jq v.n)∧Cq w' gv (at_*2+1) (.slice v.A v.xs.length v.c)∧Cq w' re 0 (Jq en.v)∧Cq w' re 1 (Jq en.o)∧Cq w' re 2 (Jq en.q)∧Cq w' re 3 (.string (qax en.p))) (by kernel_rfl) ⟨(qaB (C9.out.ext Ext.drew1)).1,(qtZ (C9.out.ext Ext.drew1).vs HVX.out).1,(qtZ (C9.out.ext Ext.drew1).vs HVX.out).2,(BE.out.ext Ext.drew1).cell 0,(BE.out.ext Ext.drew1).cell 1,(BE.out.ext Ext.drew1).cell 2,(BE.out.ext Ext.drew1).cell 3⟩ (fun hHeld=>?_)
    have XD:Hid (Ext w9 w9.drew):=hJ Ext.drew1
    replace XE:=hJ (XE.out.trans XD.out);replace BE:=hJ (BE.out.ext XD.out);replace BNE:=hJ (BNE.out.ext XD.out);replace C9:=hJ (C9.out.ext XD.out)
    clear XD;generalize w9.drew=u8 at *
    refine E_t 0 75 ?_;refine E_t 1 76 ?_;refine E_t 2 77 ?_;refine E_t 3 78 ?_;refine E_t 4 79 ?_;refine E_t 5 80 ?_;refine E_t 6 81 ?_;refine E_t 7 82 ?_;refine E_t 8 83 ?_;refine E_t 9 84 ?_;refine E_t 10 85 ?_;refine E_t 11 86 ?_;refine E_t 12 87 ?_;refine E_t 13 88 ?_;refine E_t 14 89 ?_;refine E_t 15 90 ?_;refine E_r 16 (some 91) fun K hK=>?_
    go_simp;go_at_call 32;refine(qt0 v.n v.A v.c v.xs _ (qum C9.out.vs HVX.out) (by omega)).mono ?_
    rintro e' wE ⟨rfl,hxE⟩
    unfold qjG
    replace XE:=hJ (XE.out.trans hxE);replace BE:=hJ (BE.out.ext hxE);replace BNE:=hJ (BNE.out.ext hxE);replace C9:=hJ (C9.out.ext hxE)
    clear hxE;clear hHeld;refine hK.out _ _ ⟨(qaB (C9.out)).1,(qtZ (C9.out).vs HVX.out).1,(qtZ (C9.out).vs HVX.out).2,(BE.out).cell 0,(BE.out).cell 1,(BE.out).cell 2,(BE.out).cell 3⟩ (fun hHeld=>?_)
    clear hK K;try simp only[Act.put,aP1,aP2,aP3]
    refine E_t 17 92 ?_;refine E_t 18 93 ?_;refine qaE (by kernel_rfl) (by rfl) ?_
    have HN2:Hid (qub mem t.l (j+1) nx):=hJ (qug HSY.out HNX.out HE.out HO0.out)
    go_wp2;go_roundw
    case rel=>exact⟨j+1,nx,by omega,by go_num,HN2,BNE,XE⟩
    case measure=>simp[intOf];omega
   have ho':(en.o == 0)=false:=by simpa using ho
   obtain⟨ix,b,sl,hix,hb,hbs,hsl,hq,hpl⟩:=hnz.out ho
   have HI:=hJ hix;have HB:=hJ hb;have HSL:=hJ hsl
   have hil:ix<mem.length:=(List.getElem?_eq_some_iff.1 hb).1
   have HN2:=hJ (que HSY.out HNX.out HE.out hb hbs)
   have HNO:Hid (nx[ix]?=some (qay (t.l.take j) en.o)):=hJ (by rw[←hbs];exact HNX.out.2 ix b hb)
   have hqn:qay (t.l.take j) en.o≤100000:=Nat.le_trans List.countP_le_length (by rw[List.length_take];omega)
   clear hb hbs hsl hix;obtain⟨cq,hcq⟩:∃x,x=qay (t.l.take j) en.o:=⟨_,rfl⟩
   rw[←hcq] at hq hpl hqn HN2 HNO
   clear hcq;have HQ:=hJ hq;have HPL:=hJ hpl;have hcl:cq<sl.l.length:=(List.getElem?_eq_some_iff.1 hpl).1
   clear hq hpl;go_upto_region 16 with fail
   generalize (wr.alloc (.cells #[Jq en.v,Jq en.o,Jq en.q,.string (qax en.p)] 66))=w9 at *
   generalize wr.heap.size=re at *
   have C9:=hJ (C6.out.ext XE.out)
   obtain⟨e0,e1,e2,e3⟩:=qt9 BE.out
   clear e0 e2 e3;go_wp2_with fail
   refine(qcs ⟨Av,cv,vs,some (Pq gm 0),cm,mem,Ad,cd,down,some (Pq gt 0),ct,told,some (Pq gs 0),cs,sent,Af,cf,fly⟩ w2.heap.size col6 p en.o _ C9.out (by simp only;omega)).mono ?_
   rintro e wx ⟨rfl,rfl⟩
   rw[HI.out]
   clear e1 c0 c1 c2 c3 z3 tc;go_upto_region 21 with fail
   obtain⟨ab,ao,hsA,hpc⟩:=qud C9.out HSL.out HPL.out
   have HSA:=hJ hsA;have HPC:=hJ hpc
   clear hsA hpc;have hn0:¬(ix:Int)<0:=by omega
   have hn1:¬(sl.l.length:Int)≤(cq:Int):=by omega
   have hn2:(cq:Int)<(sl.l.length:Int):=by omega
   have hwq:IntKind.i64.wrap ((cq:Int)+1)=(cq:Int)+1:=IntWalk.i64_in _ (by omega)
   have hil':(ix:Int)<(mem.length:Int):=by omega
   have hsl2:ix<sent.length:=by omega
   refine qac 41 (fun w'=>Cq w' nb ix (Jq (cq:Int))∧Cq w' p 4 (.slice (some (Pq gs 0)) sent.length cs)∧Cq w' gs ix (.slice (some (Pq ab ao)) sl.l.length sl.c)∧Cq w' ab (ao+cq) (.string (qax en.p))∧Cq w' re 2 (Jq ((cq:Int)+1))∧Cq w' re 3 (.string (qax en.p))) (by kernel_rfl) ⟨qt8 (BNE.out.ext Ext.drew1) HNO.out,(qaB (C9.out.ext Ext.drew1)).2.2.2.2.1,by have h:=qnq (C9.out.ext Ext.drew1).sent HSL.out;rw[HSA.out] at h;exact h,qt2 (C9.out.ext Ext.drew1) HSL.out HPL.out HSA.out,by rw[←HQ.out];exact(BE.out.ext Ext.drew1).cell 2,(BE.out.ext Ext.drew1).cell 3⟩ (fun hHeld=>?_)
   have XD:Hid (Ext w9 w9.drew):=hJ Ext.drew1
   replace XE:=hJ (XE.out.trans XD.out);replace BE:=hJ (BE.out.ext XD.out);replace BNE:=hJ (BNE.out.ext XD.out);replace C9:=hJ (C9.out.ext XD.out)
   clear XD;generalize w9.drew=u8 at *
   refine E_t 0 97 ?_;refine E_t 1 98 ?_;refine E_t 2 99 ?_;refine E_t 3 100 ?_;refine E_t 4 101 ?_;refine E_t 5 102 ?_;refine E_t 6 103 ?_;refine E_t 7 104 ?_;refine E_t 8 105 ?_;refine E_t 9 106 ?_;refine E_t 10 107 ?_;refine E_t 11 108 ?_;refine E_t 12 109 ?_;refine E_t 13 110 ?_;refine E_t 14 111 ?_;refine E_t 15 112 ?_;refine E_t 16 113 ?_;refine E_t 17 114 ?_;refine E_t 18 115 ?_;refine E_t 19 116 ?_;refine E_t 20 117 ?_;refine E_t 21 118 ?_;refine E_t 22 119 ?_;refine E_t 23 120 ?_;refine E_t 24 121 ?_;refine E_t 25 122 ?_;refine E_t 26 123 ?_;refine E_t 27 124 ?_;refine E_t 28 125 ?_;refine E_t 29 126 ?_;refine E_t 30 127 ?_;refine E_t 31 128 ?_;refine E_t 32 129 ?_;refine E_t 33 130 ?_;refine E_t 34 131 ?_;refine E_t 35 132 ?_;refine E_t 36 133 ?_;refine E_t 37 134 ?_;refine E_t 38 135 ?_;refine E_t 39 136 ?_;refine E_t 40 137 ?_;refine qaE (by kernel_rfl) (by rfl) ?_
   have q0:=qt8 BNE.out HNO.out
   have qf:u8.frozen? (Pq nb ix)=false:=BNE.out.free ix
   go_wp2;have BF:Hid (BIs (u8.setCell (Pq nb ix) (Jq ((cq:Int)+1))) nb (nxV (nx.set ix (cq+1))) 3):=hJ (quk BNE.out)
   have XF:Hid (Ext w6 (u8.setCell (Pq nb ix) (Jq ((cq:Int)+1)))):=hJ (XE.out.set (p:=(Pq nb ix)) HNB.out _)
   generalize (u8.setCell (Pq nb ix) (Jq ((cq:Int)+1)))=wF at *
   go_roundw
   case rel=>exact⟨j+1,_,by omega,by go_num,HN2,BF,XF⟩
   case measure=>simp[intOf];omega
theorem walk{w:World}(num:Int)(A:Option Addr)(c:Nat)(xs:List Int)(hi64:I64 num)(hr:Row w A (qam xs))(hc:xs.length≤c)(hm:c≤maxLen)(_hx:∀x∈xs,I64 x)
  (D:Option Addr) (d:Nat) (l:List Mv) (hl:Row w D (mvE.cells l)) (_hd:l.length≤d) (_hd2:d≤maxLen) (hq:∀m∈l,qtB m) (W:World) (hW:w=W) :
  Calls Tryz.prog 8 #[.agg #[Jq num,.slice A xs.length c],.slice D l.length d] W fun e w'=>e=.returned (.bool true)∧Ext W w':=by
 subst hW
 exact walk0 num A c xs D d l w hr ⟨hc,hm⟩ (by unfold maxLen at hm;omega) hl hq hi64
open Go.ChangeShapes Go.WideShapes Go.ChangeAt
theorem lifted(os:Os)(started:os.Started)(H:Type)(enc:TypeId×Value→H) :
  ReturnsInHanded {} Tryz.checked os 8 .any (Rows.castCreatesSpec.pre6 enc Tryz.prog Tryz.f8 Rows.castCreatesRow.domain false) (Rows.castCreatesSpec.post enc Tryz.prog Tryz.f8 false true false false):=by
 refine returnsInHanded_of_change (C:=Tryz.checked) own started (by kernel_rfl) Tryz.func8
  (ChangeSpec.witness6 (enc:=enc) (C:=Tryz.checked) false ⟨#[],#[.agg #[Jq 0,Zq],Zq],[]⟩ 8 (by kernel_rfl) (by kernel_rfl) (by kernel_rfl) (by kernel_rfl)) ?_
 intro W base args ds gs before hval0 hW hcnd _
 have hval:∀(j:Nat) t v,Tryz.f8.params[j]?=some t→args[j]?=some v→Value.okWide Tryz.prog W .any base t v:=hval0
 have hW':=hW
 obtain⟨p,q,hA0,hV,rfl,hfz,hnd⟩:=hW
 have hA:DataW.TrodAll enc Tryz.prog W 0 (fun _=>true) true Tryz.f8.params.toList args.toList ds p:=hA0
 rw[Tryz.params8] at hA hval
 obtain⟨v0,vs0,d0,ds0,p0,q0,hargs,rfl,rfl,h0,r0⟩:=trodAll_cons hA
 obtain⟨v1,vs1,d1,ds1,p1,q1,rfl,rfl,rfl,h1,r1⟩:=trodAll_cons r0
 obtain⟨rfl,rfl,rfl⟩:=trodAll_nil r1
 obtain rfl:args=#[v0,v1]:=by cases args;simp_all
 obtain⟨rfl,rfl⟩:=trodVars_none hV
 have lt0:∀x∈p0,x.block<W.heap.size:=by obtain⟨m,hm⟩:=h0;exact DataW.trod_lt m _ _ _ hm
 have lt1:∀x∈p1,x.block<W.heap.size:=by obtain⟨m,hm⟩:=h1;exact DataW.trod_lt m _ _ _ hm
 obtain⟨n0,A0,c0,x0,e0,hi0,hc0,hm0,hr0,hx0⟩:=qro (hval 0 46 v0 rfl rfl) h0
 obtain⟨A1,c1,x1,e1,hc1,hm1,hr1,hq1⟩:=qqb (hval 1 68 v1 rfl rfl) h1
 clear hA0 hval0;have wk:=walk n0 A0 c0 x0 hi0 hr0 hc0 hm0 hx0 A1 c1 x1 hr1 hc1 hm1 hq1 W rfl
 rw[←e0,←e1] at wk
 refine wk.mono fun e W' ⟨he,bel⟩=>?_
 subst he
 exact⟨_,rfl,_,_,_,[],_,[],hW',trodAll_mk1 (shut_bool Tryz.underlying4 _),(trodAll_cons_mk (Below.trod qoB (by kernel_rfl) (of_decide_eq_true (by kernel_rfl)) h0 bel lt0) (trodAll_cons_mk (Below.trod qoB (by kernel_rfl) (of_decide_eq_true (by kernel_rfl)) h1 bel lt1) trodAll_mk0)),rfl,bel.frame _,fun h=>by cases h⟩
theorem over:Rows.castCreatesRow.holds Tryz.pinned (OpenSpec.ofChange Rows.castCreatesSpec):=
 OpenClaim.holds_of_wide 8 Tryz.f8 rfl rfl rfl rfl rfl rfl rfl ⟨rfl,rfl,rfl,rfl,rfl⟩ rfl rfl rfl rfl rfl (by kernel_rfl) Tryz.func8 (by kernel_rfl)
  (of_decide_eq_true (by kernel_rfl)) (by unfold Func.isWrapper;first|(rw[if_pos (by decide +kernel)];kernel_rfl)|(rw[if_neg (by decide +kernel)];exact⟨rfl,rfl⟩))
  (fun os started H enc _=>lifted os started H enc)
/-- the statement -/
theorem proved:Rows.CastCreatesSaid:=over
#print axioms proved
