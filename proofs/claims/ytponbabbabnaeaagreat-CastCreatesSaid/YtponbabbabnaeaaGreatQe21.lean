/- Part 21 of the proof: contracts of functions that the statement reaches. Conditions: as each theorem says. -/
import Derived.Test.YtponbabbabnaeaaGreatQe01
import Derived.Test.YtponbabbabnaeaaGreatQe20
import Derived.Test.YtponbabbabnaeaaGreatQe07
import Derived.Test.YtponbabbabnaeaaGreatQe06
import Derived.Test.YtponbabbabnaeaaGreatQe16
import Derived.Test.YtponbabbabnaeaaGreatQe13
set_option maxRecDepth 100000
namespace Go.Proofs.YtponbabbabnaeaaGreat
open Go.RowKit
theorem Elem.one_row{α:Type}{E:Elem α}{w:World}{g:Nat}{x:α}{t:TypeId}(h:BIs w g (E.f x).toArray t):Row w (some (Pq g 0)) (E.cells [x]):=by
 intro _
 refine⟨g,0,rfl,h.lt,fun j q hj=>?_⟩
 rw[E.cells_cons] at hj
 have hj':(E.f x)[j]?=some q:=by simpa[Elem.cells] using hj
 rw[h.cell];simpa using hj'
theorem qjS{w w':World}{col:Nat→Nat}{b:BM}(h:qb8.ok b∧∀r∈qb8.inn b,Row w r.1 r.2∧ColR col 0 r.1 r.2)(e:Ext w w'):qb8.ok b∧∀r∈qb8.inn b,Row w' r.1 r.2∧ColR col 0 r.1 r.2:=
 ⟨h.1,fun r hr=>⟨(h.2 r hr).1.ext e,(h.2 r hr).2⟩⟩
def qtE(B:Nat)(col:Nat→Nat)(p:Nat)(w:World)(r:Wd)(en:Ending)(w':World):Prop:=∃m col',en=.returned (.tuple #[])∧WS w' B col' p m∧m.wd=r∧Stp B [1,3,4,5,6] col w col' w'
set_option maxHeartbeats 1000000 in
theorem qkK(m:WM)(B:Nat)(col:Nat→Nat)(p:Nat)(b:BM)(w:World)(h:WS w B col p m)(hb:qb8.ok b∧∀r∈qb8.inn b,Row w r.1 r.2∧ColR col 0 r.1 r.2)(h1:m.mem.length≤1000)(h2:m.down.length≤1000)(h3:m.told.length≤1000)(h4:m.sent.length≤1000) :
  Calls Tryz.prog 94 #[.pointer (some (Pq p 0)),.agg b.cells] w (qtE B col p w (qmy m.wd b.st)):=by
 obtain⟨Av,cv,vs,Am,cm,mem,Ad,cd,down,At,ct,told,As,cs,sent,Af,cf,fly⟩:=m
 obtain⟨self0,base0,stable0,sent0,Av0,cv0,vs0,Al0,cl0,log0,Ap0,cp0,pend0,Am0,cm0,marks0,Af0,cf0,fls0⟩:=b
 simp only at h1 h2 h3 h4
 have E0:Hid (Ext w (w.alloc (.cells #[Jq self0,.slice Av0 vs0.length cv0,Jq base0,.slice Al0 log0.length cl0,Jq stable0,Jq sent0,.slice Ap0 pend0.length cp0,.slice Am0 marks0.length cm0,.slice Af0 fls0.length cf0] 28))):=hJ (Ext.new _ _)
 have C0:Hid (WS (w.alloc (.cells #[Jq self0,.slice Av0 vs0.length cv0,Jq base0,.slice Al0 log0.length cl0,Jq stable0,Jq sent0,.slice Ap0 pend0.length cp0,.slice Am0 marks0.length cm0,.slice Af0 fls0.length cf0] 28)) B col p ⟨Av,cv,vs,Am,cm,mem,Ad,cd,down,At,ct,told,As,cs,sent,Af,cf,fly⟩):=hJ (h.ext E0.out)
 have BX:Hid (BIs (w.alloc (.cells #[Jq self0,.slice Av0 vs0.length cv0,Jq base0,.slice Al0 log0.length cl0,Jq stable0,Jq sent0,.slice Ap0 pend0.length cp0,.slice Am0 marks0.length cm0,.slice Af0 fls0.length cf0] 28)) w.heap.size #[Jq self0,.slice Av0 vs0.length cv0,Jq base0,.slice Al0 log0.length cl0,Jq stable0,Jq sent0,.slice Ap0 pend0.length cp0,.slice Am0 marks0.length cm0,.slice Af0 fls0.length cf0] 28):=hJ (BIs.new _ _ _)
 have HB:Hid (qb8.ok ⟨self0,base0,stable0,sent0,Av0,cv0,vs0,Al0,cl0,log0,Ap0,cp0,pend0,Am0,cm0,marks0,Af0,cf0,fls0⟩∧∀r∈qb8.inn ⟨self0,base0,stable0,sent0,Av0,cv0,vs0,Al0,cl0,log0,Ap0,cp0,pend0,Am0,cm0,marks0,Af0,cf0,fls0⟩,Row (w.alloc (.cells #[Jq self0,.slice Av0 vs0.length cv0,Jq base0,.slice Al0 log0.length cl0,Jq stable0,Jq sent0,.slice Ap0 pend0.length cp0,.slice Am0 marks0.length cm0,.slice Af0 fls0.length cf0] 28)) r.1 r.2∧ColR col 0 r.1 r.2):=hJ ⟨hb.1,fun r hr=>⟨(hb.2 r hr).1.ext E0.out,(hb.2 r hr).2⟩⟩
 have BL:Hid (Stp B [1,3,4,5,6] col w col (w.alloc (.cells #[Jq self0,.slice Av0 vs0.length cv0,Jq base0,.slice Al0 log0.length cl0,Jq stable0,Jq sent0,.slice Ap0 pend0.length cp0,.slice Am0 marks0.length cm0,.slice Af0 fls0.length cf0] 28))):=hJ (Stp.ext' h.Bsz E0.out)
 have HC8:Hid (col w.heap.size=0):=hJ (h.z _ (Nat.le_refl _))
 clear h hb;go_enter Tryz.func94,Tryz.ntmps94
 go_upto_region 1 with fail
 generalize (w.alloc (.cells #[Jq self0,.slice Av0 vs0.length cv0,Jq base0,.slice Al0 log0.length cl0,Jq stable0,Jq sent0,.slice Ap0 pend0.length cp0,.slice Am0 marks0.length cm0,.slice Af0 fls0.length cf0] 28))=u0 at *
 generalize w.heap.size=r0 at *
 refine qac 8 (fun w'=>Cq w' p 1 (.slice Am mem.length cm)∧Cq w' r0 0 (Jq self0)∧Cq w' r0 1 (.slice Av0 vs0.length cv0)∧Cq w' r0 2 (Jq base0)∧Cq w' r0 3 (.slice Al0 log0.length cl0)∧Cq w' r0 4 (Jq stable0)∧Cq w' r0 5 (Jq sent0)∧Cq w' r0 6 (.slice Ap0 pend0.length cp0)∧Cq w' r0 7 (.slice Am0 marks0.length cm0)∧Cq w' r0 8 (.slice Af0 fls0.length cf0)) (by kernel_rfl) ⟨(qaB (C0.out.ext Ext.drew1)).2.1,(BX.out.ext Ext.drew1).cell 0,(BX.out.ext Ext.drew1).cell 1,(BX.out.ext Ext.drew1).cell 2,(BX.out.ext Ext.drew1).cell 3,(BX.out.ext Ext.drew1).cell 4,(BX.out.ext Ext.drew1).cell 5,(BX.out.ext Ext.drew1).cell 6,(BX.out.ext Ext.drew1).cell 7,(BX.out.ext Ext.drew1).cell 8⟩ (fun hHeld=>?_)
 have XD:Hid (Ext u0 u0.drew):=hJ Ext.drew1
 replace BL:=hJ (BL.out.trans (Stp.ext' C0.out.Bsz XD.out))
 replace C0:=hJ (C0.out.ext XD.out);replace BX:=hJ (BX.out.ext XD.out);replace HB:=hJ (qjS HB.out XD.out)
 clear XD;generalize u0.drew=u1 at *
 refine E_t 0 4 ?_;refine E_t 1 5 ?_;refine E_t 2 6 ?_;refine E_t 3 7 ?_;refine E_t 4 8 ?_;refine E_t 5 9 ?_;refine E_r 6 (some 10) fun K hK=>?_
 go_simp;have EA:Hid (Ext u1 (u1.alloc (.cells #[Jq self0,.slice Av0 vs0.length cv0,Jq base0,.slice Al0 log0.length cl0,Jq stable0,Jq sent0,.slice Ap0 pend0.length cp0,.slice Am0 marks0.length cm0,.slice Af0 fls0.length cf0] 28))):=hJ (Ext.new _ _)
 have HRE:Hid (Row (u1.alloc (.cells #[Jq self0,.slice Av0 vs0.length cv0,Jq base0,.slice Al0 log0.length cl0,Jq stable0,Jq sent0,.slice Ap0 pend0.length cp0,.slice Am0 marks0.length cm0,.slice Af0 fls0.length cf0] 28)) (some (Pq u1.heap.size 0)) (qb8.cells [⟨self0,base0,stable0,sent0,Av0,cv0,vs0,Al0,cl0,log0,Ap0,cp0,pend0,Am0,cm0,marks0,Af0,cf0,fls0⟩])):=hJ ((Elem.one_row (E:=qb8) (BIs.new _ _ _)))
 replace BL:=hJ (BL.out.trans (Stp.ext' C0.out.Bsz EA.out))
 replace C0:=hJ (C0.out.ext EA.out);replace BX:=hJ (BX.out.ext EA.out);replace HB:=hJ (qjS HB.out EA.out)
 clear EA;generalize (u1.alloc (.cells #[Jq self0,.slice Av0 vs0.length cv0,Jq base0,.slice Al0 log0.length cl0,Jq stable0,Jq sent0,.slice Ap0 pend0.length cp0,.slice Am0 marks0.length cm0,.slice Af0 fls0.length cf0] 28))=u2 at *
 generalize u1.heap.size=r_e at *
 clear hHeld;refine hK.out _ _ ⟨(qaB C0.out).2.1,BX.out.cell 0,BX.out.cell 1,BX.out.cell 2,BX.out.cell 3,BX.out.cell 4,BX.out.cell 5,BX.out.cell 6,BX.out.cell 7,BX.out.cell 8⟩ (fun hHeld=>?_)
 clear hK K;try simp only[Act.put,aP1,aP2,aP3]
 refine E_r 7 (some 11) fun K hK=>?_
 refine qby qb8 rfl (.tmp 8) (.tmp 10) rfl u2 B _ mem (by rfl) _ 1 1 [⟨self0,base0,stable0,sent0,Av0,cv0,vs0,Al0,cl0,log0,Ap0,cp0,pend0,Am0,cm0,marks0,Af0,cf0,fls0⟩] (by rfl) rfl HRE.out (by decide) (C0.out.mem.ob (by decide)) (C0.out.mem.good (by decide) (fun x hx=>by simp only[List.mem_cons,List.not_mem_nil,or_false] at hx;subst hx;exact HB.out)) (by omega) C0.out.Bsz ?_
 intro v3 w3 ho3 hg3 hs3
 obtain⟨NM,hNM⟩:∃l,l=mem++[(⟨self0,base0,stable0,sent0,Av0,cv0,vs0,Al0,cl0,log0,Ap0,cp0,pend0,Am0,cm0,marks0,Af0,cf0,fls0⟩:BM)]:=⟨_,rfl⟩
 rw[←hNM] at ho3
 obtain⟨A3,c3,col3,rfl,bx3,ws3,bl3⟩:=C0.out.push_mem HB.out hNM ho3 hg3 hs3
 have HNM:=hJ hNM
 clear hNM;have BX3:=hJ bx3;have C3:=hJ ws3;have BL3:=hJ (BL.out.trans (bl3.mono (by simp)))
 have f1:=bx3.free 1;have q1:w3.cell? (Pq p 1)=some (.slice Am mem.length cm):=bx3.cell 1
 have BB3:Hid (BIs w3 r0 #[Jq self0,.slice Av0 vs0.length cv0,Jq base0,.slice Al0 log0.length cl0,Jq stable0,Jq sent0,.slice Ap0 pend0.length cp0,.slice Am0 marks0.length cm0,.slice Af0 fls0.length cf0] 28):=hJ (BX.out.same (hg3.block _ BX.out.lt (fun e=>by have h3:=C0.out.mem.cv _ e.symm;have h4:=HC8.out;rw[h3] at h4;cases h4)))
 clear ho3 hg3 hs3 bx3 ws3 bl3;clear hHeld;refine hK.out _ _ ⟨q1,BB3.out.cell 0,BB3.out.cell 1,BB3.out.cell 2,BB3.out.cell 3,BB3.out.cell 4,BB3.out.cell 5,BB3.out.cell 6,BB3.out.cell 7,BB3.out.cell 8⟩ (fun hHeld=>?_)
 clear hK K;try simp only[Act.put,aP1,aP2,aP3]
 refine qbc (by rfl) (by kernel_rfl) ?_
 go_upto_region 2 with fail
 generalize (w3.setCell (Pq p 1) (.slice A3 NM.length c3))=v1 at *
 clear BX3 f1 q1 BB3 hHeld HRE HB BX HC8 C0 BL;have EA:Hid (Ext v1 (v1.alloc (.cells #[.bool false] 4))):=hJ (Ext.new _ _)
 have CA:Hid (WS (v1.alloc (.cells #[.bool false] 4)) B col3 p ⟨Av,cv,vs,A3,c3,NM,Ad,cd,down,At,ct,told,As,cs,sent,Af,cf,fly⟩):=hJ (C3.out.ext EA.out)
 have HR:Hid (Row (v1.alloc (.cells #[.bool false] 4)) (some (Pq v1.heap.size 0)) (qcX.cells [false])):=hJ (Elem.one_row (E:=qcX) (BIs.new _ _ _))
 obtain⟨y0,y1,y2,y3,y4,y5⟩:=qaB C3.out
 go_upto_region 3 with (first|(at_builtin;refine qcd qcX rfl (.tmp 18) (.tmp 19) rfl _ B _ down (by rfl) _ 1 1 [false] (by rfl) rfl HR.out (CA.out.down.ob (by decide)) (fun x _=>⟨trivial,fun r hr=>by simp[qcX] at hr⟩) (by omega) CA.out.Bsz ?_;intro vn wn ho hg hs;obtain⟨NDN,hNDN⟩:∃l,l=down++[false]:=⟨_,rfl⟩;rw[←hNDN] at ho;obtain⟨A4,c4,col4,rfl,bx,ws,bl⟩:=CA.out.push_down ⟨trivial,fun r hr=>by simp[qcX] at hr⟩ hNDN ho hg hs;have HNDN:=hJ hNDN;clear hNDN;have g4:=bx.free 2;have e4:wn.cell? (Pq p 2)=some (.slice Ad down.length cd):=bx.cell 2;have C4:=hJ ws;have BL4:=hJ ((BL3.out.trans (Stp.ext' C3.out.Bsz EA.out)).trans (bl.mono (by simp)));clear ho hg hs ws bl))
 generalize (wn.setCell (Pq p 2) (.slice A4 NDN.length c4))=v4 at *
 clear bx g4 e4 CA HR EA y0 y1 y2 y3 y4 y5 C3 BL3;have EA:Hid (Ext v4 (v4.alloc (.cells #[Zq] 23))):=hJ (Ext.new _ _)
 have CA:Hid (WS (v4.alloc (.cells #[Zq] 23)) B col4 p ⟨Av,cv,vs,A3,c3,NM,A4,c4,NDN,At,ct,told,As,cs,sent,Af,cf,fly⟩):=hJ (C4.out.ext EA.out)
 have HR:Hid (Row (v4.alloc (.cells #[Zq] 23)) (some (Pq v4.heap.size 0)) (tlE.cells [(⟨none,0,[]⟩:TlM)])):=hJ (Elem.one_row (E:=tlE) (BIs.new _ _ _))
 obtain⟨y0,y1,y2,y3,y4,y5⟩:=qaB C4.out
 go_upto_region 4 with (first|(at_builtin;refine qcd tlE rfl (.tmp 27) (.tmp 28) rfl _ B _ told (by rfl) _ 1 1 [(⟨none,0,[]⟩:TlM)] (by rfl) rfl HR.out (CA.out.told.ob (by decide)) (fun x _=>⟨trivial,fun r hr=>by simp[tlE] at hr⟩) (by omega) CA.out.Bsz ?_;intro vn wn ho hg hs;obtain⟨NTL,hNTL⟩:∃l,l=told++[(⟨none,0,[]⟩:TlM)]:=⟨_,rfl⟩;rw[←hNTL] at ho;obtain⟨A5,c5,col5,rfl,bx,ws,bl⟩:=CA.out.push_told ⟨trivial,fun r hr=>by simp[tlE] at hr⟩ rfl hNTL ho hg hs;have HNTL:=hJ hNTL;clear hNTL;have g5:=bx.free 3;have e5:wn.cell? (Pq p 3)=some (.slice At told.length ct):=bx.cell 3;have C5:=hJ ws;have BL5:=hJ ((BL4.out.trans (Stp.ext' C4.out.Bsz EA.out)).trans (bl.mono (by simp)));clear ho hg hs ws bl))
 generalize (wn.setCell (Pq p 3) (.slice A5 NTL.length c5))=v5 at *
 clear bx g5 e5 CA HR EA y0 y1 y2 y3 y4 y5 C4 BL4;have EA:Hid (Ext v5 (v5.alloc (.cells #[Zq] 24))):=hJ (Ext.new _ _)
 have CA:Hid (WS (v5.alloc (.cells #[Zq] 24)) B col5 p ⟨Av,cv,vs,A3,c3,NM,A4,c4,NDN,A5,c5,NTL,As,cs,sent,Af,cf,fly⟩):=hJ (C5.out.ext EA.out)
 have HR:Hid (Row (v5.alloc (.cells #[Zq] 24)) (some (Pq v5.heap.size 0)) (snE.cells [(⟨none,0,[]⟩:SnM)])):=hJ (Elem.one_row (E:=snE) (BIs.new _ _ _))
 obtain⟨y0,y1,y2,y3,y4,y5⟩:=qaB C5.out
 go_wp2_with (first|(at_builtin;refine qcd snE rfl (.tmp 36) (.tmp 37) rfl _ B _ sent (by rfl) _ 1 1 [(⟨none,0,[]⟩:SnM)] (by rfl) rfl HR.out (CA.out.sent.ob (by decide)) (fun x _=>⟨trivial,fun r hr=>by simp[snE] at hr⟩) (by omega) CA.out.Bsz ?_;intro vn wn ho hg hs;obtain⟨NSN,hNSN⟩:∃l,l=sent++[(⟨none,0,[]⟩:SnM)]:=⟨_,rfl⟩;rw[←hNSN] at ho;obtain⟨A6,c6,col6,rfl,bx,ws,bl⟩:=CA.out.push_sent ⟨trivial,fun r hr=>by simp[snE] at hr⟩ rfl hNSN ho hg hs;have HNSN:=hJ hNSN;clear hNSN;have g6:=bx.free 4;have e6:wn.cell? (Pq p 4)=some (.slice As sent.length cs):=bx.cell 4;have C6:=hJ ws;have BL6:=hJ ((BL5.out.trans (Stp.ext' C5.out.Bsz EA.out)).trans (bl.mono (by simp)));clear ho hg hs ws bl))
 go_end0;refine⟨_,col6,rfl,C6.out,?_,BL6.out⟩
 simp only[WM.wd,qmy,HNM.out,HNDN.out,HNTL.out,HNSN.out,List.map_append,List.map_cons,List.map_nil]
theorem qrI(m:WM)(B:Nat)(col:Nat→Nat)(p:Nat)(b:BM)(w:World)(h:WS w B col p m)(hb:qb8.ok b∧∀r∈qb8.inn b,Row w r.1 r.2∧ColR col 0 r.1 r.2)(h1:m.mem.length≤1000)(h2:m.down.length≤1000)(h3:m.told.length≤1000)(h4:m.sent.length≤1000) :
  Calls Tryz.prog 94 #[.pointer (some (Pq p 0)),.agg b.cells] w (qjK B p w (.tuple #[]) (qmy m.wd b.st)):=
 (qkK m B col p b w h hb h1 h2 h3 h4).mono fun _ _ ⟨m',col',e1,e2,e3,e4⟩=>⟨m',col',e1,e2,e3,e4.below⟩
theorem qdY{α:Type}{ops:Array Oper}{o:Oper}{a:Act}{K:Act→World→Prop}{Q:Exit→Act→World→Prop}{X:Prop}(E:Elem α)(hgd:o.guard=none)(s x:Operand)
  (ho:o.op=.call {callee:=.builtin .append,args:=#[s,x],argTypes:=#[E.st,E.st]})
  (W:World) (B:Nat) (v:Value) (l:List α) (hs:a.eval s=v) (A:Option Addr) (m c:Nat) (news:List α) (hx:a.eval x=.slice A m c) (hm:m=news.length) (hr:Row W A (E.cells news))
  (hob:E.OB W B v l) (hgood:∀q∈news,E.ok q∧∀r∈E.inn q,Row W r.1 r.2∧Apt v r) (hl:l.length+m≤20000000) (hB:B≤W.heap.size)
  (h:∀v' w',E.OB w' B v' (l++news)→Grew W w' v→Stems W v v'→K (a.put o.dst v') w'):if Region.wanted o (yielded ops a.tmps)=true then Oper.wp Tryz.prog o a W K Q else X:=by
 have hw:Region.wanted o (yielded ops a.tmps)=true:=by simp[Region.wanted,hgd]
 rw[if_pos hw]
 rcases Nat.eq_zero_or_pos m with hz|hp
 ·have hn:news=[]:=List.eq_nil_of_length_eq_zero (by omega)
  subst hn
  subst hz
  obtain⟨i0,hi,hz0,hz1',hz2⟩:=E.info_parts
  rcases A with _|ad
  ·have hrun:=qeI (P:=Tryz.prog) W B E.st o.type E.ty i0 E.k E.und hi v l.length (E.cells l) hob.1 c
   unfold Oper.wp execOp
   simp only[ho,resolve,invoke,builtin,Sem.run_bind,Sem.run_pure,Result.andThen_ok,List.map_toArray,List.map_cons,List.map_nil,hs,hx,hrun]
   exact h v W (by rw[List.append_nil];exact hob) ⟨rfl,rfl,rfl,Nat.le_refl _,fun _ _ _=>rfl⟩ (.inl rfl)
  ·obtain⟨v',w',hrun,h2,h3,_,h4⟩:=run_append_own_at (P:=Tryz.prog) W B E.st o.type E.ty i0 E.z E.k E.bytes E.und hi hz0 hz1' hz2 E.zk E.pos v l.length (E.cells l) hob.1 ad 0 c [] (by simp) (fun j u hj=>by simp at hj) (fun u hu=>by simp at hu) (by unfold maxLen;omega) (by
    calc (l.length+0)*E.bytes≤20000000*512:=Nat.mul_le_mul hl E.small
     _≤_:=by decide) hB
   unfold Oper.wp execOp
   simp only[ho,resolve,invoke,builtin,Sem.run_bind,Sem.run_pure,Result.andThen_ok,List.map_toArray,List.map_cons,List.map_nil,hs,hx,hrun]
   have hst:Stems W v v':=by
    rcases h4 with h4|h4
    ·exact .inl h4
    ·exact .inr ⟨_,h4,Nat.le_refl _⟩
   refine h v' w' ⟨?_,fun q hq=>?_⟩ h3 hst
   ·unfold Elem.Own;rw[List.append_nil];rw[List.append_nil] at h2;exact h2
   ·rw[List.append_nil] at hq
    exact⟨(hob.2 q hq).1,fun r hr=>⟨((hob.2 q hq).2 r hr).1.grown h3 ((hob.2 q hq).2 r hr).2,qig ((hob.2 q hq).2 r hr).1 ((hob.2 q hq).2 r hr).2 hst⟩⟩
 ·rcases A with _|ad
  ·exfalso
   have hne:E.cells news≠[]:=by
    intro e
    have:=E.cells_len news
    rw[e] at this
    have:0<news.length*E.k:=Nat.mul_pos (by omega) E.pos
    simp at *;omega
   obtain⟨b,off,hh,_⟩:=hr hne
   cases hh
  ·exact qgP E s x ho W B v l hs ad m c news hx hm hr hp hob hgood hl hB h
section
variable {w w3:World} {B p:Nat} {col:Nat→Nat} {m:WM}
theorem WS.fly_good{v:Value}{l l':List FyM}(h:WS w B col p m)(e:Ext w w3)(ho:qgj.Own w3 w.heap.size v l)(hl:∀a∈l',a∈m.fly):∀q∈l',qgj.ok q∧∀r∈qgj.inn q,Row w3 r.1 r.2∧Apt v r:=
 fun q hq=>⟨(h.fly.inn q (hl q hq)).1,fun r hr=>⟨((h.fly.inn q (hl q hq)).2 r hr).1.ext e,qmS ((h.fly.inn q (hl q hq)).2 r hr).1 (Nat.le_refl _) ho⟩⟩
theorem WS.new_fly{v:Value}{l:List FyM}(h:WS w B col p m)(e:Ext w w3)(ho:qgj.OB w3 w.heap.size v l)(hl:∀a∈l,a∈m.fly) :
  ∃A c col',v=.slice A l.length c∧BIs w3 p m.cells 59∧WS (w3.setCell (Pq p 5) v) B col' p {m with Af:=A,cf:=c,fly:=l}∧Below B w (w3.setCell (Pq p 5) v):=by
 obtain⟨A,c,rfl,_⟩:=ho.1.slice
 obtain⟨col',hc1,hc2,hc3⟩:∃col':Nat→Nat,(∀k,k<w.heap.size→col' k=col k)∧(∀k,w3.heap.size≤k→col' k=0)∧ColV col' 7 (.slice A l.length c):=by
  refine⟨fun k=>if k<w.heap.size then col k else if (Value.slice A l.length c).ownBlock=some k then 7 else 0,fun k hk=>if_pos hk,fun k hk=>?_,fun q hq=>?_⟩
  ·have:=e.size
   simp only
   rw[if_neg (by omega),if_neg (fun hq=>by have:=(ho.1.lt k hq).2;omega)]
  ·have:=(ho.1.lt q hq).1
   simp only
   rw[if_neg (by omega),if_pos hq]
 have s:Stp B [] col w col' w3:=Stp.ext h.Bsz e hc1
 have s2:Stp B [1] col' w3 col' (w3.setCell (Pq p 5) (.slice A l.length c)):=Stp.wrote (Wrote.set _ _ _ _) h.bp (Nat.le_trans h.Bsz s.size) (by rw[s.hue p h.lt,h.pc];simp)
 have s12:Stp B [1] col w col' (w3.setCell (Pq p 5) (.slice A l.length c)):=(s.mono (by simp)).trans s2
 have bx:=s.bis h.box (by simp)
 have af:Arr qgj w3 B col' 7 (.slice A l.length c) l:=⟨ho.1.base h.Bsz,hc3,fun a ha=>⟨(ho.2 a ha).1,fun r hr=>⟨((ho.2 a ha).2 r hr).1,s.colR ((h.fly.inn a (hl a ha)).2 r hr).1 ((h.fly.inn a (hl a ha)).2 r hr).2⟩⟩⟩
 exact⟨A,c,col',rfl,bx,⟨bx.set 5 _,(s12.hue p h.lt).trans h.pc,h.bp,fun k hk=>hc2 k (Nat.le_trans s2.size hk),h.vs.keep s12 (by decide) (by decide),h.mem.keep s12 (by decide) (by decide),h.down.keep s12 (by decide) (by decide),h.told.keep s12 (by decide) (by decide),h.sent.keep s12 (by decide) (by decide),af.keep s2 (by decide) (by decide),h.ti.keep s12 (by decide),h.si.keep s12 (by decide)⟩,s12.below⟩
end
set_option maxHeartbeats 1000000 in
theorem qkN(m:WM)(B:Nat)(col:Nat→Nat)(p:Nat)(k:Nat)(w:World)(h:WS w B col p m)(hk:k<m.fly.length)(hn:m.fly.length≤1000000) :
  Calls Tryz.prog 101 #[.pointer (some (Pq p 0)),Jq (k:Int)] w (qjK B p w (.tuple #[]) (qhA m.wd k)):=by
 obtain⟨Av,cv,vs,Am,cm,mem,Ad,cd,down,At,ct,told,As,cs,sent,Af,cf,fly⟩:=m
 simp only at hk hn
 have H:=hJ h
 have q5:=(qaB h).2.2.2.2.2
 obtain⟨A0,c0,hv0,hc1,hc2,hrow⟩:=h.fly.slice
 simp only[Value.slice.injEq,true_and] at hv0
 obtain⟨hv1,hv2⟩:=hv0
 rw[←hv1] at hrow
 rw[←hv2] at hc1 hc2
 clear hv1 hv2 A0 c0;unfold maxLen at hc2
 simp only at hc1
 have HR:=hJ hrow
 clear hrow h;have hsl1:∀W,(Instr.slice 57 (.slice Af fly.length cf) none (some (Jq (k:Int))) none).run Tryz.prog W=.ok (.slice Af k cf) W:=fun W=>qgj.slice_h Af fly.length cf k _ rfl (by omega) W
 have hsl2:∀W,(Instr.slice 57 (.slice Af fly.length cf) (some (Jq ((k:Int)+1))) none none).run Tryz.prog W=.ok (.slice (qcB Af (k+1) cf 3) (fly.length - (k+1)) (cf - (k+1))) W:=fun W=>qgj.slice_l Af fly.length cf (k+1) _ (by omega) (by omega) W
 have hwk:IntKind.i64.wrap ((k:Int)+1)=(k:Int)+1:=IntWalk.i64_in _ (by omega)
 go_enter Tryz.func101,Tryz.ntmps101
 go_upto_region 0 with fail
 refine qac 17 (fun w'=>Cq w' p 5 (.slice Af fly.length cf)) (by kernel_rfl) (qaB (H.out.ext Ext.drew1)).2.2.2.2.2 (fun hHeld=>?_)
 have XX:Hid (Ext w w.drew):=hJ Ext.drew1
 generalize w.drew=u1 at *
 refine E_t 0 4 ?_;refine E_t 2 6 ?_;refine E_t 3 7 ?_;refine E_t 4 8 ?_;refine E_t 5 9 ?_;refine E_t 6 10 ?_;refine E_t 7 11 ?_;refine E_t 9 13 ?_;refine E_t 10 14 ?_;refine E_t 11 15 ?_;refine E_t 12 16 ?_;refine E_t 13 17 ?_;refine E_t 14 18 ?_;refine E_t 15 19 ?_;refine E_r 1 (some 5) fun K hK=>?_
 go_simp;have EA:Hid (Ext u1 (u1.alloc (.cells #[] 137))):=hJ (Ext.new _ _)
 have HO:Hid (qgj.OB (u1.alloc (.cells #[] 137)) w.heap.size (.slice (some (Pq u1.heap.size 0)) 0 0) []):=hJ ((qgj.own_empty u1).baseOB XX.out.size)
 have HRB:Hid (w.heap.size≤u1.heap.size):=hJ XX.out.size
 replace XX:=hJ (XX.out.trans EA.out)
 clear EA;generalize (u1.alloc (.cells #[] 137))=u2 at *
 generalize u1.heap.size=r_e at *
 clear hHeld;refine hK.out _ _ (qaB (H.out.ext XX.out)).2.2.2.2.2 (fun hHeld=>?_)
 clear hK K;try simp only[Act.put,aP1,aP2,aP3]
 refine E_r 8 (some 12) fun K hK=>?_
 refine qdY qgj rfl (.tmp 5) (.tmp 11) rfl u2 w.heap.size _ [] (by rfl) Af k cf (fly.take k) (by rfl) (by rw[List.length_take];omega) (Elem.row_upto (HR.out.ext XX.out) k) HO.out (H.out.fly_good XX.out HO.out.1 (fun a ha=>List.mem_of_mem_take ha)) (by simp;omega) XX.out.size ?_
 intro v3 w3 ho3 hg3 hs3
 rw[List.nil_append] at ho3
 obtain⟨N1,hN1⟩:∃l,l=fly.take k:=⟨_,rfl⟩
 rw[←hN1] at ho3
 have HN1:=hJ hN1
 clear hN1;obtain⟨A3,c3,rfl,_⟩:=ho3.1.slice
 have HO3:=hJ ho3
 replace XX:=hJ (hg3.below XX.out XX.out.size (fun q hq=>(HO.out.1.lt q hq).1))
 clear ho3 hg3 hs3;clear hHeld;refine hK.out _ _ (qaB (H.out.ext XX.out)).2.2.2.2.2 (fun hHeld=>?_)
 clear hK K;try simp only[Act.put,aP1,aP2,aP3]
 refine E_r 16 (some 20) fun K hK=>?_
 refine qdY qgj rfl (.tmp 12) (.tmp 19) rfl w3 w.heap.size _ N1 (by rfl) (qcB Af (k+1) cf 3) (fly.length - (k+1)) (cf - (k+1)) (fly.drop (k+1)) (by rfl) (by rw[List.length_drop]) (Elem.row_from (E:=qgj) (HR.out.ext XX.out) (by omega) (k+1)) HO3.out (H.out.fly_good XX.out HO3.out.1 (fun a ha=>List.mem_of_mem_drop ha)) (by have:=congrArg List.length HN1.out;simp at this;omega) XX.out.size ?_
 intro v4 w4 ho4 hg4 hs4
 obtain⟨N2,hN2⟩:∃l,l=N1++fly.drop (k+1):=⟨_,rfl⟩
 rw[←hN2] at ho4
 have HN2:=hJ hN2
 clear hN2;replace XX:=hJ (hg4.below XX.out XX.out.size (fun q hq=>(HO3.out.1.lt q hq).1))
 obtain⟨A4,c4,col4,rfl,bx4,ws4,bl4⟩:=H.out.new_fly XX.out ho4 (fun a ha=>by rw[HN2.out,HN1.out] at ha;rcases List.mem_append.1 ha with ha|ha;exact List.mem_of_mem_take ha;exact List.mem_of_mem_drop ha)
 have C4:=hJ ws4;have BL4:=hJ bl4
 have f4:=bx4.free 5
 have q4:w4.cell? (Pq p 5)=some (.slice Af fly.length cf):=bx4.cell 5
 clear ho4 hg4 hs4 ws4 bl4 bx4;clear hHeld;refine hK.out _ _ q4 (fun hHeld=>?_)
 clear hK K;try simp only[Act.put,aP1,aP2,aP3]
 refine qbc (by rfl) (by kernel_rfl) ?_
 go_wp2;go_end0;refine⟨_,col4,rfl,C4.out,?_,BL4.out⟩
 simp only[WM.wd,qhA,HN2.out,HN1.out,List.map_append,List.map_take,List.map_drop]
theorem qq0 {P : Prop} (h : P := by
 clear hfl;go_wp2;go_end0;refine⟨_,colr,rfl,CR.out,?_,BR.out⟩
 exact qrJ HMW.out HTW.out HNT2.out HF.out HE.out) : P := h
def PkIn(w:World)(col:Nat→Nat)(A:Option Addr)(l:List PkM):Prop:=(Row w A (pkE.cells l)∧ColR col 0 A (pkE.cells l))∧∀x∈l,pkE.ok x∧Row w x.A (qad x.bs)∧ColR col 0 x.A (qad x.bs)
section
variable {w w':World} {B p c:Nat} {col col':Nat→Nat} {cs:List Nat} {m:WM}
theorem PkIn.keep{A:Option Addr}{l:List PkM}(h:PkIn w col A l)(s:Stp B cs col w col' w')(h0:0∉cs):PkIn w' col' A l:=
 ⟨⟨s.row h.1.1 h.1.2 h0,s.colR h.1.1 h.1.2⟩,fun x hx=>⟨(h.2 x hx).1,s.row (h.2 x hx).2.1 (h.2 x hx).2.2 h0,s.colR (h.2 x hx).2.1 (h.2 x hx).2.2⟩⟩
theorem PkIn.ext{A:Option Addr}{l:List PkM}(h:PkIn w col A l)(e:Ext w w'):PkIn w' col A l:=⟨⟨h.1.1.ext e,h.1.2⟩,fun x hx=>⟨(h.2 x hx).1,(h.2 x hx).2.1.ext e,(h.2 x hx).2.2⟩⟩
theorem PkIn.fly{A:Option Addr}{l:List PkM}{k:Nat}{x:PkM}{self:Int}(h:PkIn w col A l)(hx:l[k]?=some x):qgj.ok ⟨self,x.t,x.A,x.c,x.bs⟩∧∀r∈qgj.inn ⟨self,x.t,x.A,x.c,x.bs⟩,Row w r.1 r.2∧ColR col 0 r.1 r.2:=
 ⟨(h.2 x (List.mem_of_getElem? hx)).1,fun r hr=>by simp only[qgj,List.mem_cons,List.not_mem_nil,or_false] at hr;subst hr;exact(h.2 x (List.mem_of_getElem? hx)).2⟩
theorem qq4{A:Option Addr}{n:Nat}{l:List TlM}{i:Nat}(h:Arr tlE w B col c (.slice A l.length n) l)(hi:i<l.length):∃g t,A=some (Pq g 0)∧l[i]?=some t∧w.cell? (Pq g i)=some (.slice t.A t.l.length t.c):=by
 obtain⟨g,m,hv,_⟩:=h.addr (by omega)
 simp only[Value.slice.injEq,true_and] at hv
 obtain⟨rfl,rfl⟩:=hv
 have ht:=List.getElem?_eq_getElem hi
 exact⟨g,_,rfl,ht,by have:=h.cell ht (j:=0) rfl;simpa[tlE] using this⟩
theorem qts{A:Option Addr}{l:List PkM}{k:Nat}(h:Row w A (pkE.cells l))(hk:k<l.length):∃b o x,A=some (Pq b o)∧b<w.heap.size∧w.cell? (Pq b (o+k*2))=some (Jq (PkM.t x))∧w.cell? (Pq b (o+k*2+1))=some (.slice x.A x.bs.length x.c)∧Hid (l[k]?=some x):=by
 have hx:=List.getElem?_eq_getElem hk
 have hne:pkE.cells l≠[]:=fun e=>by have:=pkE.cells_len l;rw[e] at this;simp[pkE] at this;omega
 obtain⟨b,o,h1,h2,h3⟩:=h hne
 have c0:=h3 _ _ (by rw[pkE.cells_at hx 0 (by decide)];rfl)
 have c1:=h3 _ _ (by rw[pkE.cells_at hx 1 (by decide)];rfl)
 exact⟨b,o,_,h1,h2,by simpa[pkE] using c0,by rw[show o+k*2+1=o+(k*2+1) by omega];exact c1,hJ hx⟩
theorem qtu{a1 a2 a3 a4 a5:Addr}{v1 v2 v3 v4 v5:Value}(e:Ext w w')(h:w.cell? a1=some v1∧w.cell? a2=some v2∧w.cell? a3=some v3∧w.cell? a4=some v4∧w.cell? a5=some v5):w'.cell? a1=some v1∧w'.cell? a2=some v2∧w'.cell? a3=some v3∧w'.cell? a4=some v4∧w'.cell? a5=some v5:=
 have k:∀(a:Addr) (v:Value),w.cell? a=some v→w'.cell? a=some v:=fun a v h=>by
  have hl:a.block<w.heap.size:=by
   rcases Nat.lt_or_ge a.block w.heap.size with hl|hl
   ·exact hl
   ·rw[World.cell?,Array.getElem?_eq_none hl] at h;cases h
  rw[e.cell hl];exact h
 ⟨k _ _ h.1,k _ _ h.2.1,k _ _ h.2.2.1,k _ _ h.2.2.2.1,k _ _ h.2.2.2.2⟩
theorem qgF{v u:Value}{q o:Nat}(hcv:ColV col c v)(g:Grew w w' v)(hq:col q≠c)(h:w.cell? (Pq q o)=some u):w'.cell? (Pq q o)=some u:=by
 have hl:q<w.heap.size:=by
  rcases Nat.lt_or_ge q w.heap.size with hl|hl
  ·exact hl
  ·rw[World.cell?,Array.getElem?_eq_none hl] at h;cases h
 rw[World.cell?_of_block (a:=⟨q,o,none⟩) (g.block q hl (fun e=>hq (hcv q e.symm)))]
 exact h
theorem PkIn.blk{b o:Nat}{l:List PkM}(h:PkIn w col (some (Pq b o)) l)(hl:0<l.length):col b=0:=
 h.1.2 ⟨b,o,none⟩ (fun e=>by have:=pkE.cells_len l;rw[e] at this;simp[pkE] at this;omega) rfl
theorem qrJ{m:WM}{i:Nat}{self:Int}{tl dl:List Ent}{pk:List PkM}{told':List TlM}{fl:List FyM}{A:Option Addr}{c k:Nat}{At:Option Addr}{ct:Nat}(h1:(qeM m.wd i).self=self)(h2:(m.told.map TlM.l)[i]?=some tl)(h3:told'.map TlM.l=(m.told.map TlM.l).set i (tl++dl))
  (h4:fl.map FyM.v=m.fly.map FyM.v++(pk.take k).map fun x=>(self,x.t,x.bs)) (h5:pk.take k=pk.take (400 - m.fly.length)):({m with At:=At,ct:=ct,told:=told',Af:=A,cf:=c,fly:=fl}:WM).wd=qh7 m.wd i (pk.map PkM.v) dl:=by
 unfold qh7 qpB
 rw[h1,show m.wd.told=m.told.map TlM.l from rfl,h2]
 simp only[WM.wd,Option.getD_some,h3,h4,h5,List.length_map]
 rw[←List.map_take,List.map_map]
 rfl
end
set_option maxHeartbeats 1000000 in
theorem qlo(m:WM)(B:Nat)(col:Nat→Nat)(p i:Nat)(Ak:Option Addr)(ck:Nat)(pk:List PkM)(Ae:Option Addr)(ce:Nat)(dl:List Ent)(w:World)(h:WS w B col p m)(hi:i<m.mem.length)(hi2:i<m.told.length)(HP:PkIn w col Ak pk)(hd:Row w Ae (qaz.cells dl))
  (hn:m.fly.length≤400) (hpl:pk.length≤100000) (htl:∀t∈m.told,t.l.length≤100000) (hdl:dl.length≤100000) :
  Calls Tryz.prog 99 #[.pointer (some (Pq p 0)),Jq (i:Int),.slice Ak pk.length ck,.slice Ae dl.length ce] w (qjK B p w (.tuple #[]) (qh7 m.wd i (pk.map PkM.v) dl)):=by
 obtain⟨Av,cv,vs,Am,cm,mem,Ad,cd,down,At,ct,told,As,cs,sent,Af,cf,fly⟩:=m
 simp only at hi hi2 hn htl
 obtain⟨gm,b,hAm,_,_,_,hb,cself,_⟩:=qf3 h.mem hi
 simp only at hAm hb
 subst hAm
 obtain⟨gt,t,hAt,ht,ct0⟩:=qq4 h.told hi2
 simp only at hAt ht
 subst hAt
 have htl0:=htl t (List.mem_of_getElem? ht)
 clear htl;obtain⟨self,hself⟩:∃x,x=b.self:=⟨_,rfl⟩
 rw[←hself] at cself
 have HMW:Hid ((qeM (⟨Av,cv,vs,some (Pq gm 0),cm,mem,Ad,cd,down,some (Pq gt 0),ct,told,As,cs,sent,Af,cf,fly⟩:WM).wd i).self=self):=hJ (by rw[hself];unfold qeM WM.wd;simp only[List.getElem?_map,hb];rfl)
 have HTW:Hid ((told.map TlM.l)[i]?=some t.l):=hJ (by rw[List.getElem?_map,ht];rfl)
 have H:=hJ h;have HPK:=hJ HP;have HD:=hJ hd;have HB0:=hJ hb;have HT:=hJ ht;have HSELF:=hJ hself
 clear h HP hd hb ht hself;go_enter Tryz.func99,Tryz.ntmps99
 go_upto_region 0 with fail
 refine qac 14 (fun w'=>Cq w' p 3 (.slice (some (Pq gt 0)) told.length ct)∧Cq w' gt i (.slice t.A t.l.length t.c)) (by kernel_rfl) ⟨by have:=(qaB (H.out.ext Ext.drew1)).2.2.2.1;exact this,ct0⟩ (fun hHeld=>?_)
 have XD:Hid (Ext w w.drew):=hJ Ext.drew1
 have C1:=hJ (H.out.ext XD.out);have P1:=hJ (HPK.out.ext XD.out);have D1:=hJ (HD.out.ext XD.out);have BL1:Hid (Below B w w.drew):=hJ (XD.out.mono H.out.Bsz)
 clear XD;generalize w.drew=u1 at *
 refine E_t 0 9 ?_;refine E_t 1 10 ?_;refine E_t 2 11 ?_;refine E_t 3 12 ?_;refine E_t 4 13 ?_;refine E_t 5 14 ?_;refine E_t 6 15 ?_;refine E_t 7 16 ?_;refine E_t 8 17 ?_;refine E_t 9 18 ?_;refine E_t 10 19 ?_;refine E_t 11 20 ?_;refine E_t 12 21 ?_;refine E_r 13 (some 22) fun K hK=>?_
 refine qdY qaz rfl (.tmp 20) (.tmp 21) rfl u1 B _ t.l (by rfl) Ae dl.length ce dl (by rfl) rfl D1.out ⟨(C1.out.ti i t HT.out).1,fun _ _=>⟨trivial,fun r hr=>by simp[qaz] at hr⟩⟩ (fun _ _=>⟨trivial,fun r hr=>by simp[qaz] at hr⟩) (by omega) C1.out.Bsz ?_
 intro v3 w3 ho3 hg3 hs3
 obtain⟨NT,hNT⟩:∃l',l'=t.l++dl:=⟨_,rfl⟩
 rw[←hNT] at ho3
 obtain⟨A3,c3,col3,rfl,bx3,f3,e3,ws3,st3⟩:=C1.out.app_told rfl HT.out hNT ho3 hg3 hs3
 have HNT:=hJ hNT;have C3:=hJ ws3;have P3:=hJ (P1.out.keep st3 (by simp only[List.mem_cons,List.not_mem_nil,or_false];omega));have BL3:=hJ (BL1.out.trans st3.below)
 have q3:w3.cell? (Pq p 3)=some (.slice (some (Pq gt 0)) told.length ct):=bx3.cell 3
 clear ho3 hg3 hs3 bx3 ws3 st3 hNT;clear hHeld;refine hK.out _ _ ⟨q3,e3⟩ (fun hHeld=>?_)
 clear hK K;try simp only[Act.put,aP1,aP2,aP3]
 refine qbc (by rfl) (by kernel_rfl) ?_
 go_upto_region 1 with fail
 generalize w3.setCell (Pq gt i) (.slice A3 NT.length c3)=v1 at *
 clear q3 f3 e3 hHeld ct0 cself C1 P1 D1 BL1;have HNT2:Hid (((told.set i ⟨A3,c3,NT⟩).map TlM.l)=(told.map TlM.l).set i (t.l++dl)):=hJ (by rw[List.map_set,HNT.out])
 obtain⟨NTL,hNTL⟩:∃l,l=told.set i ⟨A3,c3,NT⟩:=⟨_,rfl⟩
 rw[←hNTL] at C3 HNT2
 clear hNTL;go_wp2;go_loopw [8] (fun kk wr=>∃(k:Nat) (Afr:Option Addr) (cfr:Nat) (fl:List FyM) (colr:Nat→Nat),k≤pk.length∧(k=0∨fly.length+k≤400)∧kk=Jq k∧Hid (fl.map FyM.v=fly.map FyM.v++(pk.take k).map fun x=>(self,x.t,x.bs))∧Hid (WS wr B colr p ⟨Av,cv,vs,some (Pq gm 0),cm,mem,Ad,cd,down,some (Pq gt 0),ct,NTL,As,cs,sent,Afr,cfr,fl⟩)∧Hid (PkIn wr colr Ak pk)∧Hid (Below B w wr)) (fun kk _=>pk.length - (intOf kk).toNat)
 case atStart=>exact⟨0,Af,cf,fly,col3,Nat.zero_le _,.inl rfl,rfl,hJ (by simp),hJ (by have:=C3.out;simpa using this),P3,BL3⟩
 case round=>
  obtain⟨k,Afr,cfr,fl,colr,hk,hk4,rfl,HF,CR,PR,BR⟩:=hrel
  have hfl:fl.length=fly.length+k:=by have:=congrArg List.length HF.out;simp only[List.length_map,List.length_append,List.length_take] at this;omega
  obtain⟨z0,z1,z2,z3,z4,z5⟩:=qaB CR.out
  clear z0 z2 z3 z4;simp only at z1 z5
  by_cases hlt:k<pk.length
  rotate_left
  ·have HE:Hid (pk.take k=pk.take (400 - fly.length)):=hJ (by rw[List.take_of_length_le (by omega),List.take_of_length_le (by omega)])
   exact qq0
  by_cases h400:fly.length+k<400
  rotate_left
  ·have HE:Hid (pk.take k=pk.take (400 - fly.length)):=hJ (by rw[show k=400 - fly.length by omega])
   have h4a:¬fl.length<400:=by omega
   have h4b:¬(fl.length:Int)<400:=by omega
   exact qq0
  have h4a:fl.length<400:=by omega
  have h4b:(fl.length:Int)<400:=by omega
  obtain⟨bk,ok,x,hAk,hbk,cx0,cx1,HX⟩:=qts PR.out.1.1 hlt
  subst hAk
  have hs0:=CR.out.mem.cell HB0.out (j:=0) rfl
  have cs:wr.cell? (Pq gm (i*9))=some (Jq self):=by rw[HSELF.out];simpa[qb8] using hs0
  clear hs0;clear hfl;go_upto_region 4 with fail
  refine qac 26 (fun w'=>Cq w' p 5 (.slice Afr fl.length cfr)∧Cq w' p 1 (.slice (some (Pq gm 0)) mem.length cm)∧Cq w' gm (i*9) (Jq self)∧Cq w' bk (ok+k*2) (Jq x.t)∧Cq w' bk (ok+k*2+1) (.slice x.A x.bs.length x.c)) (by kernel_rfl) ⟨z5,z1,cs,cx0,cx1⟩ (fun hHeld=>?_)
  have XD:Hid (Ext wr wr.drew):=hJ Ext.drew1
  replace BR:=hJ (BR.out.trans (XD.out.mono CR.out.Bsz))
  replace CR:=hJ (CR.out.ext XD.out);replace PR:=hJ (PR.out.ext XD.out)
  clear XD;generalize wr.drew=u4 at *
  refine E_t 0 38 ?_;refine E_t 1 39 ?_;refine E_t 2 40 ?_;refine E_t 3 41 ?_;refine E_t 4 42 ?_;refine E_t 5 43 ?_;refine E_t 6 44 ?_;refine E_t 7 45 ?_;refine E_t 8 46 ?_;refine E_t 9 47 ?_;refine E_t 10 48 ?_;refine E_t 11 49 ?_;refine E_t 12 50 ?_;refine E_t 13 51 ?_;refine E_t 14 52 ?_;refine E_t 15 53 ?_;refine E_t 16 54 ?_;refine E_t 17 55 ?_;refine E_t 18 56 ?_;refine E_t 19 57 ?_;refine E_t 20 58 ?_;refine E_t 21 59 ?_;refine E_t 22 60 ?_;refine E_t 23 61 ?_;refine E_r 24 (some 62) fun K hK=>?_
  go_simp;have EA:Hid (Ext u4 (u4.alloc (.cells #[Jq self,Jq x.t,.slice x.A x.bs.length x.c] 137))):=hJ (Ext.new _ _)
  have HRE:Hid (Row (u4.alloc (.cells #[Jq self,Jq x.t,.slice x.A x.bs.length x.c] 137)) (some (Pq u4.heap.size 0)) (qgj.cells [⟨self,x.t,x.A,x.c,x.bs⟩])):=hJ (Elem.one_row (E:=qgj) (BIs.new _ _ _))
  replace BR:=hJ (BR.out.trans (EA.out.mono CR.out.Bsz));replace CR:=hJ (CR.out.ext EA.out);replace PR:=hJ (PR.out.ext EA.out)
  have T0:(u4.alloc (.cells #[Jq self,Jq x.t,.slice x.A x.bs.length x.c] 137)).cell? (Pq p 5)=some (.slice Afr fl.length cfr)∧(u4.alloc (.cells #[Jq self,Jq x.t,.slice x.A x.bs.length x.c] 137)).cell? (Pq p 1)=some (.slice (some (Pq gm 0)) mem.length cm)∧(u4.alloc (.cells #[Jq self,Jq x.t,.slice x.A x.bs.length x.c] 137)).cell? (Pq gm (i*9))=some (Jq self)∧(u4.alloc (.cells #[Jq self,Jq x.t,.slice x.A x.bs.length x.c] 137)).cell? (Pq bk (ok+k*2))=some (Jq x.t)∧(u4.alloc (.cells #[Jq self,Jq x.t,.slice x.A x.bs.length x.c] 137)).cell? (Pq bk (ok+k*2+1))=some (.slice x.A x.bs.length x.c):=qtu EA.out hHeld
  clear EA;generalize (u4.alloc (.cells #[Jq self,Jq x.t,.slice x.A x.bs.length x.c] 137))=u5 at *
  generalize u4.heap.size=r_e at *
  clear hHeld;refine hK.out _ _ T0 (fun hHeld=>?_)
  clear hK K;try simp only[Act.put,aP1,aP2,aP3]
  refine E_r 25 (some 63) fun K hK=>?_
  refine qby qgj rfl (.tmp 42) (.tmp 62) rfl u5 B _ fl (by rfl) _ 1 1 [⟨self,x.t,x.A,x.c,x.bs⟩] (by rfl) rfl HRE.out (by decide) (CR.out.fly.ob (by decide)) (CR.out.fly.good (by decide) (fun y hy=>by simp only[List.mem_cons,List.not_mem_nil,or_false] at hy;subst hy;exact PR.out.fly HX.out)) (by omega) CR.out.Bsz ?_
  intro v6 w6 ho6 hg6 hs6
  obtain⟨NF,hNF⟩:∃l',l'=fl++[(⟨self,x.t,x.A,x.c,x.bs⟩:FyM)]:=⟨_,rfl⟩
  rw[←hNF] at ho6
  obtain⟨A6,c6,col6,rfl,bx6,ws6,st6⟩:=CR.out.push_fly (PR.out.fly HX.out) hNF ho6 hg6 hs6
  have HNF:=hJ hNF;have C6:=hJ ws6;have P6:=hJ (PR.out.keep st6 (by decide));have BL6:=hJ (BR.out.trans st6.below)
  have q6:w6.cell? (Pq p 5)=some (.slice Afr fl.length cfr):=bx6.cell 5
  have q7:w6.cell? (Pq p 1)=some (.slice (some (Pq gm 0)) mem.length cm):=bx6.cell 1
  have f6:=bx6.free 5
  have q8:w6.cell? (Pq gm (i*9))=some (Jq self)∧w6.cell? (Pq bk (ok+k*2))=some (Jq x.t)∧w6.cell? (Pq bk (ok+k*2+1))=some (.slice x.A x.bs.length x.c):=⟨qgF CR.out.fly.cv hg6 (by rw[CR.out.mem.cv gm rfl];decide) hHeld.2.2.1,qgF CR.out.fly.cv hg6 (by rw[PR.out.blk (by omega)];decide) hHeld.2.2.2.1,qgF CR.out.fly.cv hg6 (by rw[PR.out.blk (by omega)];decide) hHeld.2.2.2.2⟩
  clear ho6 hg6 hs6 bx6 ws6 st6 hNF;clear hHeld;refine hK.out _ _ ⟨q6,q7,q8⟩ (fun hHeld=>?_)
  clear hK K;try simp only[Act.put,aP1,aP2,aP3]
  refine qbc (by rfl) (by kernel_rfl) ?_
  go_wp2;go_roundw
  case rel=>
   refine⟨k+1,A6,c6,NF,col6,by omega,.inr (by omega),by go_num,hJ ?_,C6,P6,BL6⟩
   rw[HNF.out,List.map_append,HF.out,List.append_assoc,qbh HX.out,List.map_append];rfl
  case measure=>simp[intOf];omega
def qdg(col:Nat→Nat)(n c:Nat):Nat→Nat:=fun k=>if k=n then c else col k
section
variable {w w':World} {B p c n n':Nat} {col col':Nat→Nat} {cs:List Nat} {m:WM}
theorem qch:qdg col n c n=c:=if_pos rfl
theorem Stp.newBox{v:Obj}(hB:B≤w.heap.size):Stp B cs col w (qdg col w.heap.size c) (w.alloc v):=Stp.ext hB (Ext.new _ _) (fun k hk=>if_neg (by omega))
theorem qej{v:Obj}(hz:∀k,w.heap.size≤k→col k=0):∀k,(w.alloc v).heap.size≤k→qdg col w.heap.size c k=0:=fun k hk=>by
 have h1:(w.alloc v).heap.size=w.heap.size+1:=by show (w.heap.push v).size=_;rw[Array.size_push]
 rw[h1] at hk
 unfold qdg
 rw[if_neg (by omega)];exact hz k (by omega)
theorem qoD(hz:∀k,w.heap.size≤k→col k=0)(hs:w'.heap.size=w.heap.size+1):∀k,w'.heap.size≤k→qdg col w.heap.size c k=0:=fun k hk=>by
 rw[hs] at hk
 unfold qdg
 rw[if_neg (by omega)];exact hz k (by omega)
theorem WS.keepB(h:WS w B col p m)(s:Stp B cs col w col' w')(hcs:(cs.all fun c=>decide (c=8∨c=9))=true)(hz:∀k,w'.heap.size≤k→col' k=0):WS w' B col' p m:=by
 have h1:∀c∈cs,c=8∨c=9:=fun c hc=>by simpa using List.all_eq_true.1 hcs c hc
 have n:∀c,c≠8→c≠9→c∉cs:=fun c h8 h9 hm=>by rcases h1 c hm with h|h<;>omega
 have n10:∀c∈cs,c<10:=fun c hc=>by rcases h1 c hc with h|h<;>omega
 exact⟨s.bis h.box (by rw[h.pc];exact n 1 (by decide) (by decide)),(s.hue p h.lt).trans h.pc,h.bp,hz,h.vs.keep s (n _ (by decide) (by decide)) (n _ (by decide) (by decide)),h.mem.keep s (n _ (by decide) (by decide)) (n _ (by decide) (by decide)),h.down.keep s (n _ (by decide) (by decide)) (n _ (by decide) (by decide)),h.told.keep s (n _ (by decide) (by decide)) (n _ (by decide) (by decide)),h.sent.keep s (n _ (by decide) (by decide)) (n _ (by decide) (by decide)),h.fly.keep s (n _ (by decide) (by decide)) (n _ (by decide) (by decide)),h.ti.keep s n10,h.si.keep s n10⟩
structure GotC(w:World)(col:Nat→Nat)(r:Cs)(m:CM):Prop where
 cs:m.cs=r
 rd:qb8.ok m.b∧∀r∈qb8.inn m.b,Row w r.1 r.2∧ColR col 0 r.1 r.2
 pk:PkIn w col m.Ak m.pk
 dl:Row w m.Ad (qaz.cells m.dl)∧ColR col 0 m.Ad (qaz.cells m.dl)
theorem GotC.len{r:Cs}{m:CM}(h:GotC w col r m):m.pk.length=r.pk.length∧m.dl.length=r.dl.length:=by
 have h1:=h.cs
 refine⟨?_,by rw[←h1];rfl⟩
 rw[←h1]
 show _=(m.pk.map PkM.v).length
 rw[List.length_map]
theorem qkX{b:BM}(h:qb8.ok b∧∀r∈qb8.inn b,Row w r.1 r.2∧ColR col 0 r.1 r.2)(s:Stp B cs col w col' w')(h0:0∉cs):qb8.ok b∧∀r∈qb8.inn b,Row w' r.1 r.2∧ColR col' 0 r.1 r.2:=
 ⟨h.1,fun r hr=>⟨s.row (h.2 r hr).1 (h.2 r hr).2 h0,s.colR (h.2 r hr).1 (h.2 r hr).2⟩⟩
theorem GotC.keep{r:Cs}{m:CM}(h:GotC w col r m)(s:Stp B cs col w col' w')(h0:0∉cs):GotC w' col' r m:=⟨h.cs,qkX h.rd s h0,h.pk.keep s h0,s.row h.dl.1 h.dl.2 h0,s.colR h.dl.1 h.dl.2⟩
theorem qnV{r:Cs}{m:CM}(h1:m.cs=r)(h2:m.b.Reads w)(h3:m.b.Fits)(h4:pkE.Box w m.Ak m.pk)(h5:Row w m.Ad (qaz.cells m.dl))(h6:m.b.New n)(h7:NewAt n m.Ad (qaz.cells m.dl))(h8:qq7 n m)(hz:∀k,n≤k→col k=0):GotC w col r m:=
 ⟨h1,qgA h2 h3 h6 hz,⟨⟨h4.1,h8.1.col hz⟩,fun x hx=>⟨(h4.2 x hx).1,(h4.2 x hx).2 (x.A,qad x.bs) (by simp[pkE]),(h8.2 x hx).col hz⟩⟩,h5,h7.col hz⟩
def RdC(w:World)(col:Nat→Nat)(b:BM):Prop:=qb8.ok b∧∀r∈qb8.inn b,Row w r.1 r.2∧ColR col 0 r.1 r.2
theorem RdC.keep{b:BM}(h:RdC w col b)(s:Stp B cs col w col' w')(h0:0∉cs):RdC w' col' b:=qkX h s h0
theorem qs4{A:Option Addr}{n:Nat}{l:List FyM}{k:Nat}(h:Arr qgj w B col c (.slice A l.length n) l)(hk:k<l.length):∃g f,A=some (Pq g 0)∧l[k]?=some f∧w.cell? (Pq g (k*3))=some (Jq (FyM.fr f))∧w.cell? (Pq g (k*3+1))=some (Jq f.to_)∧w.cell? (Pq g (k*3+2))=some (.slice f.A f.bs.length f.c):=by
 obtain⟨g,m,hv,_⟩:=h.addr (by omega)
 simp only[Value.slice.injEq,true_and] at hv
 obtain⟨rfl,rfl⟩:=hv
 have hf:=List.getElem?_eq_getElem hk
 exact⟨g,_,rfl,hf,h.cell hf (j:=0) rfl,h.cell hf (j:=1) rfl,h.cell hf (j:=2) rfl⟩
theorem qjU{A:Option Addr}{n:Nat}{l:List Bool}{i:Nat}(h:Arr qcX w B col c (.slice A l.length n) l)(hi:i<l.length):∃g d,A=some (Pq g 0)∧l[i]?=some d∧w.cell? (Pq g i)=some (.bool d)∧w.frozen? (Pq g i)=false:=by
 obtain⟨g,m,hv,_,_,_,_,_,hfr⟩:=h.addr (by omega)
 simp only[Value.slice.injEq,true_and] at hv
 obtain⟨rfl,rfl⟩:=hv
 have ht:=List.getElem?_eq_getElem hi
 exact⟨g,_,rfl,ht,by have:=h.cell ht (j:=0) rfl;simpa[qcX] using this,hfr i⟩
theorem qaa{g i:Nat}{b:BM}{u:Value}{Av Ad At As Af:Option Addr}{cv cm cd ct cs cf:Nat}{vs:List VwM}{mem:List BM}{down:List Bool}{told:List TlM}{sent:List SnM}{fly:List FyM}(h:WS w B col p ⟨Av,cv,vs,some (Pq g 0),cm,mem,Ad,cd,down,At,ct,told,As,cs,sent,Af,cf,fly⟩)(hb:mem[i]?=some b)(j:Nat)(hu:b.cells[j]?=some u):w.cell? (Pq g (i*9+j))=some u:=
 h.mem.cell hb (j:=j) (by show b.cells.toList[j]?=some u;rw[Array.getElem?_toList];exact hu)
theorem qgq{g i:Nat}{Av Ad At As Af:Option Addr}{cv cm cd ct cs cf:Nat}{vs:List VwM}{mem:List BM}{down:List Bool}{told:List TlM}{sent:List SnM}{fly:List FyM}(h:WS w B col p ⟨Av,cv,vs,some (Pq g 0),cm,mem,Ad,cd,down,At,ct,told,As,cs,sent,Af,cf,fly⟩)(hi:i<mem.length)(j:Nat):w.frozen? (Pq g j)=false:=by
 obtain⟨g',m,hv,_,_,_,_,_,hfr⟩:=h.mem.addr (by simp only;omega)
 simp only[Value.slice.injEq,Option.some.injEq,Addr.mk.injEq,and_true] at hv
 obtain⟨h1,_⟩:=hv
 rw[h1];exact hfr j
theorem qe7{m:WM}{i:Nat}{b:BM}(h:m.mem[i]?=some b):qeM m.wd i=b.st:=by unfold qeM WM.wd;simp only[List.getElem?_map,h];rfl
theorem qk9{m:WM}{i:Nat}{d:Bool}(h:m.down[i]?=some d):qeO m.wd i=d:=by unfold qeO WM.wd;simp only[h];rfl
end
set_option maxHeartbeats 4000000 in
theorem qha(b:BM)(n:Int)(A:Option Addr)(c:Nat)(xs:List Int)(w:World)(h:b.Reads w)(hf:b.Fits)(hr:Row w A (qam xs))(hx:xs.length≤1000000) :
  Calls Tryz.prog 24 #[.agg b.cells,.agg #[Jq n,.slice A xs.length c]] w (qhO w (qaR b.st (n,xs))):=by
 have W_x:=hJ hr;have R_b:=hJ h;have FT:=hJ hf
 clear hr h hf;unfold BM.cells
 have XX:Hid (Ext w (((w.alloc (.cells b.cells 28)).alloc (.cells #[Jq n,.slice A xs.length c] 46)).alloc (.cells Yq 28))):=hJ (((Ext.new _ _).trans (Ext.new _ _)).trans (Ext.new _ _))
 have B_s:Hid (BIs (((w.alloc (.cells b.cells 28)).alloc (.cells #[Jq n,.slice A xs.length c] 46)).alloc (.cells Yq 28)) (w.heap.size) b.cells 28):=hJ (((BIs.newAt (w:=w) b.cells 28 (by simp)).ext (Ext.new _ _)).ext (Ext.new _ _))
 have LW_s:Hid (w.heap.size≤w.heap.size):=hJ (by omega)
 have FR_x_s:=hJ (Row.far W_x.out (r:=w.heap.size) (by omega))
 have F_b_s:Hid (BM.Far b (w.heap.size)):=hJ (R_b.out.far (by omega))
 have B_v:Hid (BIs (((w.alloc (.cells b.cells 28)).alloc (.cells #[Jq n,.slice A xs.length c] 46)).alloc (.cells Yq 28)) (w.heap.size+1) #[Jq n,.slice A xs.length c] 46):=hJ ((BIs.newAt (w:=(w.alloc (.cells b.cells 28))) #[Jq n,.slice A xs.length c] 46 (by simp)).ext (Ext.new _ _))
 have LW_v:Hid (w.heap.size≤w.heap.size+1):=hJ (by omega)
 have L_s_v:Hid (w.heap.size<w.heap.size+1):=hJ (by omega)
 have FR_x_v:=hJ (Row.far W_x.out (r:=w.heap.size+1) (by omega))
 have F_b_v:Hid (BM.Far b (w.heap.size+1)):=hJ (R_b.out.far (by omega))
 have B_ret:Hid (BIs (((w.alloc (.cells b.cells 28)).alloc (.cells #[Jq n,.slice A xs.length c] 46)).alloc (.cells Yq 28)) (w.heap.size+2) Yq 28):=hJ (BIs.newAt (w:=((w.alloc (.cells b.cells 28)).alloc (.cells #[Jq n,.slice A xs.length c] 46))) Yq 28 (by simp))
 have LW_ret:Hid (w.heap.size≤w.heap.size+2):=hJ (by omega)
 have L_s_ret:Hid (w.heap.size<w.heap.size+2):=hJ (by omega)
 have L_v_ret:Hid (w.heap.size+1<w.heap.size+2):=hJ (by omega)
 have FR_x_ret:=hJ (Row.far W_x.out (r:=w.heap.size+2) (by omega))
 have F_b_ret:Hid (BM.Far b (w.heap.size+2)):=hJ (R_b.out.far (by omega))
 replace W_x:=hJ (W_x.out.ext XX.out)
 replace R_b:=hJ (R_b.out.ext XX.out)
 go_enter Tryz.func24,Tryz.ntmps24
 go_wp2_with fail
 generalize (((w.alloc (.cells b.cells 28)).alloc (.cells #[Jq n,.slice A xs.length c] 46)).alloc (.cells Yq 28))=u0 at *
 refine(qbR b _ R_b.out FT.out).mono ?_
 rintro en w1 ⟨rfl,hx1⟩
 replace B_s:=hJ (B_s.out.ext hx1)
 replace B_v:=hJ (B_v.out.ext hx1)
 replace B_ret:=hJ (B_ret.out.ext hx1)
 replace R_b:=hJ (R_b.out.ext hx1)
 replace W_x:=hJ (W_x.out.ext hx1)
 replace XX:=hJ (XX.out.trans hx1)
 clear hx1;by_cases hv:qbp b.st=true
 rotate_left
 ·have hv':qbp b.st=false:=by simpa using hv
  have HF:Hid (qaR b.st (n,xs)=(qcI,1)):=hJ (by unfold qaR;rw[if_pos hv'])
  rw[hv']
  clear hv hv';obtain⟨y0,y1,y2,y3,y4,y5,y6,y7,y8⟩:=qbC B_ret.out
  obtain⟨z0,z1,z2,z3,z4,z5,z6,z7,z8⟩:=B_ret.out.free9
  go_wp2;have BF:Hid (BIs (((((((((w1.setCell (Pq ((w.heap.size+2)) 0) (Jq 0)).setCell (Pq ((w.heap.size+2)) 1) Zq).setCell (Pq ((w.heap.size+2)) 2) (Jq 0)).setCell (Pq ((w.heap.size+2)) 3) Zq).setCell (Pq ((w.heap.size+2)) 4) (Jq 0)).setCell (Pq ((w.heap.size+2)) 5) (Jq 0)).setCell (Pq ((w.heap.size+2)) 6) Zq).setCell (Pq ((w.heap.size+2)) 7) Zq).setCell (Pq ((w.heap.size+2)) 8) Zq) (w.heap.size+2) Yq 28):=hJ (qaJ B_ret.out)
  have XF:Hid (Ext w (((((((((w1.setCell (Pq ((w.heap.size+2)) 0) (Jq 0)).setCell (Pq ((w.heap.size+2)) 1) Zq).setCell (Pq ((w.heap.size+2)) 2) (Jq 0)).setCell (Pq ((w.heap.size+2)) 3) Zq).setCell (Pq ((w.heap.size+2)) 4) (Jq 0)).setCell (Pq ((w.heap.size+2)) 5) (Jq 0)).setCell (Pq ((w.heap.size+2)) 6) Zq).setCell (Pq ((w.heap.size+2)) 7) Zq).setCell (Pq ((w.heap.size+2)) 8) Zq)):=hJ (qak.ext XX.out LW_ret.out)
  generalize (((((((((w1.setCell (Pq ((w.heap.size+2)) 0) (Jq 0)).setCell (Pq ((w.heap.size+2)) 1) Zq).setCell (Pq ((w.heap.size+2)) 2) (Jq 0)).setCell (Pq ((w.heap.size+2)) 3) Zq).setCell (Pq ((w.heap.size+2)) 4) (Jq 0)).setCell (Pq ((w.heap.size+2)) 5) (Jq 0)).setCell (Pq ((w.heap.size+2)) 6) Zq).setCell (Pq ((w.heap.size+2)) 7) Zq).setCell (Pq ((w.heap.size+2)) 8) Zq)=W at *
  obtain⟨e0,e1,e2,e3,e4,e5,e6,e7,e8⟩:=qbC BF.out
  refine bodyPost_ret (v:=.tuple #[.agg Yq,Jq 1]) (by simp[results,Tryz.results24,go_sem,e0,e1,e2,e3,e4,e5,e6,e7,e8]) rfl ?_
  exact qdR HF.out XF.out
 rw[hv]
 have HV:=hJ hv
 clear hv;go_upto_region 3 with fail
 have hvl:b.vs.length≤1000000:=by have:=FT.out.vs;omega
 refine qac 8 (fun w'=>Cq w' w.heap.size 1 (.slice b.Av b.vs.length b.cv)∧Cq w' (w.heap.size+1) 0 (Jq n)∧Cq w' (w.heap.size+1) 1 (.slice A xs.length c)) (by kernel_rfl) ⟨B_s.out.cell 1,B_v.out.cell 0,B_v.out.cell 1⟩ (fun hHeld=>?_)
 have XD:Hid (Ext w1 w1.drew):=hJ Ext.drew1
 replace B_s:=hJ (B_s.out.ext XD.out)
 replace B_v:=hJ (B_v.out.ext XD.out)
 replace B_ret:=hJ (B_ret.out.ext XD.out)
 replace R_b:=hJ (R_b.out.ext XD.out)
 replace W_x:=hJ (W_x.out.ext XD.out)
 replace XX:=hJ (XX.out.trans XD.out)
 clear XD;generalize w1.drew=u1 at *
 have LWU:Hid (w.heap.size≤u1.heap.size):=hJ XX.out.size;have LRU:Hid (w.heap.size+2<u1.heap.size):=hJ B_ret.out.lt
 refine E_t 0 12 ?_;refine E_t 1 13 ?_;refine E_t 3 15 ?_;refine E_r 2 (some 14) fun K hK=>?_
 go_simp;go_at_call 93;refine(qdy b.Av b.cv b.vs _ R_b.out.vs hvl FT.out.vx).mono ?_
 rintro en w2 ⟨l1,hl1,hn1,A1,c1,rfl,h11,h12,ho1,hx2⟩
 have HO1:=hJ ho1;have XU:=hJ hx2;have hw12:=hJ hx2.size
 clear ho1 hx2;clear hHeld;refine hK.out _ _ ⟨(B_s.out.ext XU.out).cell 1,(B_v.out.ext XU.out).cell 0,(B_v.out.ext XU.out).cell 1⟩ (fun hHeld=>?_)
 clear hK K;try simp only[Act.put,aP1,aP2,aP3]
 refine E_r 4 (some 16) fun K hK=>?_
 go_simp;go_at_call 86;refine(qcJ n A c xs _ (W_x.out.ext XU.out) hx).mono ?_
 rintro en w3 ⟨A2,c2,rfl,h21,h22,hr2,hn2,hx3⟩
 dsimp only at h21 hr2 hn2⊢
 have HO1':=hJ (HO1.out.ext hx3)
 replace XU:=hJ (XU.out.trans hx3)
 clear hx3;clear hHeld;refine hK.out _ _ ⟨(B_s.out.ext XU.out).cell 1,(B_v.out.ext XU.out).cell 0,(B_v.out.ext XU.out).cell 1⟩ (fun hHeld=>?_)
 clear hK K;try simp only[Act.put,aP1,aP2,aP3]
 refine E_r 5 (some 17) fun K hK=>?_
 go_simp;have RV1:Hid (qas.Box (w3.alloc (.cells #[Jq n,.slice A2 xs.length c2] 46)) (some (Pq w3.heap.size 0)) [⟨n,A2,c2,xs⟩]):=hJ (qfd hr2.out h21 h22)
 have HO2:=hJ (HO1'.out.ext (Ext.new w3 (.cells #[Jq n,.slice A2 xs.length c2] 46)))
 have E1:Hid (Ext w3 (w3.alloc (.cells #[Jq n,.slice A2 xs.length c2] 46))):=hJ (Ext.new _ _)
 replace XU:=hJ (XU.out.trans E1.out)
 clear E1;generalize w3.alloc (.cells #[Jq n,.slice A2 xs.length c2] 46)=u4 at *
 generalize w3.heap.size=r_e at *
 clear hHeld;refine hK.out _ _ ⟨(B_s.out.ext XU.out).cell 1,(B_v.out.ext XU.out).cell 0,(B_v.out.ext XU.out).cell 1⟩ (fun hHeld=>?_)
 clear hK K;try simp only[Act.put,aP1,aP2,aP3]
 refine E_r 6 (some 18) fun K hK=>?_
 have hap:Hid (∀q∈[(⟨n,A2,c2,xs⟩:VwM)],qas.ok q∧∀r∈qas.inn q,Row u4 r.1 r.2∧Apt (.slice A1 l1.length c1) r):=hJ (fun q hq=>⟨(RV1.out.2 q hq).1,fun r hr=>⟨(RV1.out.2 q hq).2 r hr,by
  simp only[List.mem_cons,List.not_mem_nil,or_false] at hq
  subst hq
  simp only[qas,List.mem_cons,List.not_mem_nil,or_false] at hr
  subst hr
  exact qgN (wc:=w2) (fun p hne hp=>hn2.out p hne hp) HO1.out.1⟩⟩)
 refine qby qas rfl (.tmp 14) (.tmp 17) rfl u4 u1.heap.size _ l1 (by rfl) _ 1 1 [⟨n,A2,c2,xs⟩] (by rfl) rfl RV1.out.1 (by decide) HO2.out hap.out (by have h1:=congrArg List.length hl1.out;simp[vws] at h1;omega) XU.out.size ?_
 intro v5 u5 ho5 hg5 hs5
 replace XU:Hid (Ext u1 u5):=hJ (Below.trans XU.out ((Below.refl u1.heap.size u4).grown hg5 XU.out.size (fun k hk=>(HO2.out.1.lt k hk).1)))
 have LN:Hid (vws (l1++[(⟨n,A2,c2,xs⟩:VwM)])=vws b.vs++[(n,xs)]):=hJ (by have h:=hl1.out;unfold vws at *;rw[List.map_append,h];rfl)
 have VN:Hid (∀v∈l1++[(⟨n,A2,c2,xs⟩:VwM)],NewAt u1.heap.size v.A (qam v.xs)):=hJ (fun v hv=>by
  rcases List.mem_append.1 hv with hv|hv
  ·exact hn1.out v hv
  ·simp only[List.mem_cons,List.not_mem_nil,or_false] at hv
   subst hv
   exact fun p hne hp=>Nat.le_trans hw12.out (hn2.out p hne hp))
 generalize l1++[(⟨n,A2,c2,xs⟩:VwM)]=l5 at *
 have HO5:=hJ ho5
 obtain⟨A5,c5,rfl,h51,h52,_⟩:=ho5.slice
 clear ho5 hg5 hs5;clear hHeld;refine hK.out _ _ ⟨(B_s.out.ext XU.out).cell 1,(B_v.out.ext XU.out).cell 0,(B_v.out.ext XU.out).cell 1⟩ (fun hHeld=>?_)
 clear hK K;try simp only[Act.put,aP1,aP2,aP3]
 refine E_t 7 6 ?_;refine qaE (by kernel_rfl) (by rfl) ?_
 replace B_s:=hJ (B_s.out.ext XU.out)
 replace B_v:=hJ (B_v.out.ext XU.out)
 replace B_ret:=hJ (B_ret.out.ext XU.out)
 replace R_b:=hJ (R_b.out.ext XU.out)
 replace W_x:=hJ (W_x.out.ext XU.out)
 replace XX:=hJ (XX.out.trans XU.out)
 go_wp2_with fail
 have L5:Hid (l5.length≤1000000000∧∀v∈l5,v.xs.length≤1000000):=hJ (by
  have h1:l5.map VwM.v=b.vs.map VwM.v++[(n,xs)]:=LN.out
  refine⟨by have:=congrArg List.length h1;simp at this;omega,fun v hv=>?_⟩
  have h2:v.v∈l5.map VwM.v:=List.mem_map.2 ⟨v,hv,rfl⟩
  rw[h1] at h2
  rcases List.mem_append.1 h2 with h2|h2
  ·obtain⟨u,hu,he⟩:=List.mem_map.1 h2
   have:=FT.out.vx u hu
   have h3:u.xs=v.xs:=congrArg Prod.snd he
   rw[←h3];exact this
  ·simp only[List.mem_cons,List.not_mem_nil,or_false] at h2
   have h3:v.xs=xs:=congrArg Prod.snd h2
   rw[h3];exact hx)
 have B5:Hid (qas.Box u5 A5 l5):=hJ ⟨HO5.out.1.row,fun a ha=>⟨(HO5.out.2 a ha).1,fun r hr=>((HO5.out.2 a ha).2 r hr).1⟩⟩
 refine(qdB A5 c5 l5 _ B5.out L5.out.1 L5.out.2).mono ?_
 rintro en w6 ⟨rfl,hx6⟩
 replace B5:=hJ (B5.out.ext hx6)
 have HO6:=hJ (HO5.out.ext hx6)
 replace B_s:=hJ (B_s.out.ext hx6)
 replace B_v:=hJ (B_v.out.ext hx6)
 replace B_ret:=hJ (B_ret.out.ext hx6)
 replace R_b:=hJ (R_b.out.ext hx6)
 replace W_x:=hJ (W_x.out.ext hx6)
 replace XX:=hJ (XX.out.trans hx6)
 clear hx6 HO5;by_cases hvv:qaq (vws l5)=true
 rotate_left
 ·have hvv':qaq (vws l5)=false:=by simpa using hvv
  have HF:Hid (qaR b.st (n,xs)=(qcI,8)):=hJ (by unfold qaR;rw[if_neg (by rw[HV.out];simp),if_pos (by rw[←hvv',LN.out];rfl)])
  rw[hvv']
  clear hvv hvv';obtain⟨y0,y1,y2,y3,y4,y5,y6,y7,y8⟩:=qbC B_ret.out
  obtain⟨z0,z1,z2,z3,z4,z5,z6,z7,z8⟩:=B_ret.out.free9
  go_wp2;have BF:Hid (BIs (((((((((w6.setCell (Pq ((w.heap.size+2)) 0) (Jq 0)).setCell (Pq ((w.heap.size+2)) 1) Zq).setCell (Pq ((w.heap.size+2)) 2) (Jq 0)).setCell (Pq ((w.heap.size+2)) 3) Zq).setCell (Pq ((w.heap.size+2)) 4) (Jq 0)).setCell (Pq ((w.heap.size+2)) 5) (Jq 0)).setCell (Pq ((w.heap.size+2)) 6) Zq).setCell (Pq ((w.heap.size+2)) 7) Zq).setCell (Pq ((w.heap.size+2)) 8) Zq) (w.heap.size+2) Yq 28):=hJ (qaJ B_ret.out)
  have XF:Hid (Ext w (((((((((w6.setCell (Pq ((w.heap.size+2)) 0) (Jq 0)).setCell (Pq ((w.heap.size+2)) 1) Zq).setCell (Pq ((w.heap.size+2)) 2) (Jq 0)).setCell (Pq ((w.heap.size+2)) 3) Zq).setCell (Pq ((w.heap.size+2)) 4) (Jq 0)).setCell (Pq ((w.heap.size+2)) 5) (Jq 0)).setCell (Pq ((w.heap.size+2)) 6) Zq).setCell (Pq ((w.heap.size+2)) 7) Zq).setCell (Pq ((w.heap.size+2)) 8) Zq)):=hJ (qak.ext XX.out LW_ret.out)
  generalize (((((((((w6.setCell (Pq ((w.heap.size+2)) 0) (Jq 0)).setCell (Pq ((w.heap.size+2)) 1) Zq).setCell (Pq ((w.heap.size+2)) 2) (Jq 0)).setCell (Pq ((w.heap.size+2)) 3) Zq).setCell (Pq ((w.heap.size+2)) 4) (Jq 0)).setCell (Pq ((w.heap.size+2)) 5) (Jq 0)).setCell (Pq ((w.heap.size+2)) 6) Zq).setCell (Pq ((w.heap.size+2)) 7) Zq).setCell (Pq ((w.heap.size+2)) 8) Zq)=W at *
  obtain⟨e0,e1,e2,e3,e4,e5,e6,e7,e8⟩:=qbC BF.out
  refine bodyPost_ret (v:=.tuple #[.agg Yq,Jq 8]) (by simp[results,Tryz.results24,go_sem,e0,e1,e2,e3,e4,e5,e6,e7,e8]) rfl ?_
  exact qdR HF.out XF.out
 rw[hvv]
 have HVV:=hJ hvv
 clear hvv;obtain⟨q0,q1,q2,q3,q4,q5,q6,q7,q8⟩:=qbC B_s.out
 go_wp2_with fail
 clear q0 q1 q2 q3 q4 q5 q6 q7 q8;have LR6:Hid (w.heap.size+2<w6.heap.size):=hJ B_ret.out.lt
 refine(qfo b _ R_b.out FT.out).mono ?_
 rintro en w7 ⟨b',col,rfl,hst7,hft7,hl7,hc7,_,_,hx7⟩
 have NB:Hid (b'.New w6.heap.size):=hJ (hl7.new hc7)
 have RB:Hid (b'.Reads w7):=hJ hl7.reads
 have STB:=hJ hst7;have FTB:=hJ hft7
 have LW6:Hid (w.heap.size≤w6.heap.size):=hJ XX.out.size
 have LW1:Hid (w.heap.size≤u1.heap.size):=LWU
 replace B5:=hJ (B5.out.ext hx7)
 replace B_s:=hJ (B_s.out.ext hx7)
 replace B_v:=hJ (B_v.out.ext hx7)
 replace B_ret:=hJ (B_ret.out.ext hx7)
 replace R_b:=hJ (R_b.out.ext hx7)
 replace W_x:=hJ (W_x.out.ext hx7)
 replace XX:=hJ (XX.out.trans hx7)
 clear hst7 hft7 hl7 hc7 hx7;obtain⟨b2,hb2⟩:∃x:BM,x=⟨b'.self,b'.base,b'.stable,b'.sent,A5,c5,l5,b'.Al,b'.cl,b'.log,b'.Ap,b'.cp,b'.pend,none,0,[],none,0,[]⟩:=⟨_,rfl⟩
 have HB2:=hJ hb2
 clear hb2;have FRET:Hid (b2.Far (w.heap.size+2)):=hJ (by
  rw[HB2.out]
  have lt:w.heap.size+2<w6.heap.size:=LR6.out
  have lu:w.heap.size+2<u1.heap.size:=LRU.out
  exact⟨fun p hx hp e=>by have:=own_new (vs:=qas.cells l5) HO6.out.1 p hx hp;omega,fun v hv=>NewAt.far (VN.out v hv) lu,NB.out.log.far lt,NB.out.pend.far lt,fun _ h=>by simp[Elem.cells] at h,fun _ h=>by simp[Elem.cells] at h,fun _ h=>by simp at h⟩)
 have R_b2:Hid (BM.Reads w7 b2):=hJ (by rw[HB2.out];exact⟨B5.out,RB.out.log,RB.out.pend,Row.nil _ _,Elem.Box.nil _ _⟩)
 have NB2:Hid (b2.New w.heap.size):=hJ (by
  rw[HB2.out]
  have up:∀{A:Option Addr} {xs:List Value},NewAt w6.heap.size A xs→NewAt w.heap.size A xs:=fun h p hx hp=>Nat.le_trans LW6.out (h p hx hp)
  exact⟨fun p hx hp=>Nat.le_trans LW1.out (own_new (vs:=qas.cells l5) HO6.out.1 p hx hp),fun v hv p hx hp=>Nat.le_trans LW1.out (VN.out v hv p hx hp),up NB.out.log,up NB.out.pend,fun _ h=>by simp[Elem.cells] at h,fun _ h=>by simp[Elem.cells] at h,fun _ h=>by simp at h⟩)
 have FB2:Hid b2.Fits:=hJ (by
  rw[HB2.out]
  have h2:=(qeV HVV.out).2
  exact⟨by unfold vws at h2;simp at h2;simp only;omega,L5.out.2,FTB.out.log,FTB.out.lp,FTB.out.pend,FTB.out.pp,by simp,by simp,fun _ h=>by simp at h,FTB.out.cl⟩)
 have ST2:Hid ((b2.st,(0:Int))=qaR b.st (n,xs)):=hJ (by
  rw[HB2.out]
  unfold qaR
  rw[if_neg (by rw[HV.out];simp),if_neg (by rw[show b.st.views++[(n,xs)]=vws l5 from LN.out.symm,HVV.out];simp)]
  have h:=STB.out
  unfold BM.st at h⊢
  simp only[St.mk.injEq] at h
  simp only[Prod.mk.injEq,St.mk.injEq,and_true]
  obtain⟨e1,_,e3,e4,e5,e6,e7,_,_⟩:=h
  refine⟨e1,LN.out,e3,e4,e5,e6,e7,?_⟩
  simp)
 clear R_b;clear W_x;have E1:Hid (Ext w7 (w7.alloc (.cells b'.cells 28))):=hJ (Ext.new _ _)
 have L_s_o:Hid (w.heap.size<w7.heap.size):=hJ B_s.out.lt
 have L_v_o:Hid ((w.heap.size+1)<w7.heap.size):=hJ B_v.out.lt
 have L_ret_o:Hid ((w.heap.size+2)<w7.heap.size):=hJ B_ret.out.lt
 have F_b2_o:Hid (BM.Far b2 w7.heap.size):=hJ (R_b2.out.far (Nat.le_refl _))
 have LW_o:Hid (w.heap.size≤w7.heap.size):=hJ XX.out.size
 replace B_s:=hJ (B_s.out.ext E1.out)
 replace B_v:=hJ (B_v.out.ext E1.out)
 replace B_ret:=hJ (B_ret.out.ext E1.out)
 replace R_b2:=hJ (R_b2.out.ext E1.out)
 replace XX:=hJ (XX.out.trans E1.out)
 have B_o:Hid (BIs (w7.alloc (.cells b'.cells 28)) w7.heap.size b'.cells 28):=hJ (BIs.new _ _ _)
 clear E1;unfold BM.cells
 go_upto_region 7 with fail
 generalize (w7.alloc (.cells b'.cells 28))=u8 at *
 generalize w7.heap.size=r_o at *
 obtain⟨y0,y1,y2,y3,y4,y5,y6,y7,y8⟩:=qbC B_o.out
 obtain⟨z0,z1,z2,z3,z4,z5,z6,z7,z8⟩:=B_o.out.free9
 go_upto_region 8 with fail
 have W9:Hid (Wrote r_o u8 (((u8.setCell (Pq r_o 1) (.slice A5 l5.length c5)).setCell (Pq r_o 7) Zq).setCell (Pq r_o 8) Zq)):=hJ (((Wrote.set r_o 1 u8 _).trans (Wrote.set r_o 7 _ _)).trans (Wrote.set r_o 8 _ _))
 have BN:Hid (BIs (((u8.setCell (Pq r_o 1) (.slice A5 l5.length c5)).setCell (Pq r_o 7) Zq).setCell (Pq r_o 8) Zq) r_o #[Jq b'.self,.slice A5 l5.length c5,Jq b'.base,.slice b'.Al b'.log.length b'.cl,Jq b'.stable,Jq b'.sent,.slice b'.Ap b'.pend.length b'.cp,Zq,Zq] 28):=hJ (((B_o.out.set 1 _).set 7 _).set 8 _)
 clear y0 y1 y2 y3 y4 y5 y6 y7 y8 z0 z1 z2 z3 z4 z5 z6 z7 z8;replace B_s:=hJ (B_s.out.wrote (Nat.ne_of_lt L_s_o.out) W9.out)
 replace B_v:=hJ (B_v.out.wrote (Nat.ne_of_lt L_v_o.out) W9.out)
 replace B_ret:=hJ (B_ret.out.wrote (Nat.ne_of_lt L_ret_o.out) W9.out)
 replace R_b2:=hJ (R_b2.out.wrote F_b2_o.out W9.out)
 replace XX:=hJ (W9.out.ext XX.out LW_o.out)
 replace B_o:=BN
 clear BN W9;generalize (((u8.setCell (Pq r_o 1) (.slice A5 l5.length c5)).setCell (Pq r_o 7) Zq).setCell (Pq r_o 8) Zq)=u9 at *
 obtain⟨q0,q1,q2,q3,q4,q5,q6,q7,q8⟩:=qbC B_o.out
 obtain⟨y0,y1,y2,y3,y4,y5,y6,y7,y8⟩:=qbC B_ret.out
 obtain⟨z0,z1,z2,z3,z4,z5,z6,z7,z8⟩:=B_ret.out.free9
 go_wp2;have W9:Hid (Wrote (w.heap.size+2) u9 (((((((((u9.setCell (Pq ((w.heap.size+2)) 0) (Jq b'.self)).setCell (Pq ((w.heap.size+2)) 1) (.slice A5 l5.length c5)).setCell (Pq ((w.heap.size+2)) 2) (Jq b'.base)).setCell (Pq ((w.heap.size+2)) 3) (.slice b'.Al b'.log.length b'.cl)).setCell (Pq ((w.heap.size+2)) 4) (Jq b'.stable)).setCell (Pq ((w.heap.size+2)) 5) (Jq b'.sent)).setCell (Pq ((w.heap.size+2)) 6) (.slice b'.Ap b'.pend.length b'.cp)).setCell (Pq ((w.heap.size+2)) 7) Zq).setCell (Pq ((w.heap.size+2)) 8) Zq)):=hJ qak
 have BF:Hid (BIs (((((((((u9.setCell (Pq ((w.heap.size+2)) 0) (Jq b'.self)).setCell (Pq ((w.heap.size+2)) 1) (.slice A5 l5.length c5)).setCell (Pq ((w.heap.size+2)) 2) (Jq b'.base)).setCell (Pq ((w.heap.size+2)) 3) (.slice b'.Al b'.log.length b'.cl)).setCell (Pq ((w.heap.size+2)) 4) (Jq b'.stable)).setCell (Pq ((w.heap.size+2)) 5) (Jq b'.sent)).setCell (Pq ((w.heap.size+2)) 6) (.slice b'.Ap b'.pend.length b'.cp)).setCell (Pq ((w.heap.size+2)) 7) Zq).setCell (Pq ((w.heap.size+2)) 8) Zq) (w.heap.size+2) #[Jq b'.self,.slice A5 l5.length c5,Jq b'.base,.slice b'.Al b'.log.length b'.cl,Jq b'.stable,Jq b'.sent,.slice b'.Ap b'.pend.length b'.cp,Zq,Zq] 28):=hJ (qaJ B_ret.out)
 have F_b2_ret:Hid (b2.Far (w.heap.size+2)):=FRET
 have RF:Hid (b2.Reads (((((((((u9.setCell (Pq ((w.heap.size+2)) 0) (Jq b'.self)).setCell (Pq ((w.heap.size+2)) 1) (.slice A5 l5.length c5)).setCell (Pq ((w.heap.size+2)) 2) (Jq b'.base)).setCell (Pq ((w.heap.size+2)) 3) (.slice b'.Al b'.log.length b'.cl)).setCell (Pq ((w.heap.size+2)) 4) (Jq b'.stable)).setCell (Pq ((w.heap.size+2)) 5) (Jq b'.sent)).setCell (Pq ((w.heap.size+2)) 6) (.slice b'.Ap b'.pend.length b'.cp)).setCell (Pq ((w.heap.size+2)) 7) Zq).setCell (Pq ((w.heap.size+2)) 8) Zq)):=hJ (R_b2.out.wrote F_b2_ret.out W9.out)
 have XF:Hid (Ext w (((((((((u9.setCell (Pq ((w.heap.size+2)) 0) (Jq b'.self)).setCell (Pq ((w.heap.size+2)) 1) (.slice A5 l5.length c5)).setCell (Pq ((w.heap.size+2)) 2) (Jq b'.base)).setCell (Pq ((w.heap.size+2)) 3) (.slice b'.Al b'.log.length b'.cl)).setCell (Pq ((w.heap.size+2)) 4) (Jq b'.stable)).setCell (Pq ((w.heap.size+2)) 5) (Jq b'.sent)).setCell (Pq ((w.heap.size+2)) 6) (.slice b'.Ap b'.pend.length b'.cp)).setCell (Pq ((w.heap.size+2)) 7) Zq).setCell (Pq ((w.heap.size+2)) 8) Zq)):=hJ (W9.out.ext XX.out LW_ret.out)
 generalize (((((((((u9.setCell (Pq ((w.heap.size+2)) 0) (Jq b'.self)).setCell (Pq ((w.heap.size+2)) 1) (.slice A5 l5.length c5)).setCell (Pq ((w.heap.size+2)) 2) (Jq b'.base)).setCell (Pq ((w.heap.size+2)) 3) (.slice b'.Al b'.log.length b'.cl)).setCell (Pq ((w.heap.size+2)) 4) (Jq b'.stable)).setCell (Pq ((w.heap.size+2)) 5) (Jq b'.sent)).setCell (Pq ((w.heap.size+2)) 6) (.slice b'.Ap b'.pend.length b'.cp)).setCell (Pq ((w.heap.size+2)) 7) Zq).setCell (Pq ((w.heap.size+2)) 8) Zq)=W at *
 obtain⟨e0,e1,e2,e3,e4,e5,e6,e7,e8⟩:=qbC BF.out
 refine bodyPost_ret (v:=.tuple #[.agg #[Jq b'.self,.slice A5 l5.length c5,Jq b'.base,.slice b'.Al b'.log.length b'.cl,Jq b'.stable,Jq b'.sent,.slice b'.Ap b'.pend.length b'.cp,Zq,Zq],Jq 0]) (by simp[results,Tryz.results24,go_sem,e0,e1,e2,e3,e4,e5,e6,e7,e8]) rfl ?_
 rw[←ST2.out]
 exact⟨b2,by rw[HB2.out];rfl,rfl,RF.out,FB2.out,XF.out,NB2.out⟩
end Go.Proofs.YtponbabbabnaeaaGreat
