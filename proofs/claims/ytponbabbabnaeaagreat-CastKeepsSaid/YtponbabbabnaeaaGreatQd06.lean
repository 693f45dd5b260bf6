/- Part 6 of the proof: contracts of functions that the statement reaches. Conditions: as each theorem says. -/
import Derived.Deep.DeepCutAuto
import Derived.Deep.CutBlock
import Derived.Test.YtponbabbabnaeaaGreatQd01
import Derived.Test.YtponbabbabnaeaaGreatQd05
set_option maxRecDepth 100000
namespace Go.Proofs.YtponbabbabnaeaaGreat
open Go.RowKit
theorem qqB{w w':World}{a b c d:Value}{t t':TypeId}(h:Ext ((w.alloc (.cells #[a,b] t)).alloc (.cells #[c,d] t')) w') :
  w'.cell? (Pq w.heap.size 0)=some a∧w'.cell? (Pq w.heap.size 1)=some b∧w'.cell? (Pq (w.heap.size+1) 0)=some c∧w'.cell? (Pq (w.heap.size+1) 1)=some d∧w.heap.size+1<w'.heap.size:=by
 have h1:Ext (w.alloc (.cells #[a,b] t)) w':=(Ext.new _ _).trans h
 have e:(w.alloc (.cells #[a,b] t)).heap.size=w.heap.size+1:=by simp
 refine⟨by simpa using h1.cell_new 0,by simpa using h1.cell_new 1,?_,?_,?_⟩
 ·have:=h.cell_new 0;rw[e] at this;simpa using this
 ·have:=h.cell_new 1;rw[e] at this;simpa using this
 ·have:=h.size;simp at this;omega
theorem qbv{w:World}{p q:Addr}{u v:Value}(h:w.cell? q=some v)(hne:q.block≠p.block):(w.setCell p u).cell? q=some v:=(World.cell?_of_block (Below.heap_setCell _ _ _ _ hne)).trans h
theorem qtV{w v1:World}{o1 o2:Obj}{a b:Value}{t:TypeId}(h:Ext ((((w.alloc o1).alloc o2).alloc (.cells #[a,b] t)).drew) v1) :
  v1.cell? (Pq (w.heap.size+1+1) 0)=some a∧v1.cell? (Pq (w.heap.size+1+1) 1)=some b∧v1.frozen? (Pq (w.heap.size+1+1) 0)=false∧v1.frozen? (Pq (w.heap.size+1+1) 1)=false:=by
 have h1:Ext (((w.alloc o1).alloc o2).alloc (.cells #[a,b] t)) v1:=Ext.trans (Ext.drew (Ext.refl _)) h
 have e:((w.alloc o1).alloc o2).heap.size=w.heap.size+1+1:=by simp
 have a0:=h1.cell_new 0;have a1:=h1.cell_new 1;have a2:=h1.frozen_new 0;have a3:=h1.frozen_new 1
 rw[e] at a0 a1 a2 a3
 exact⟨by simpa using a0,by simpa using a1,a2,a3⟩
theorem qm5(n m:Int)(xs ys:List Int){r:Int×List Int×Int}(hr:qcr n xs (qeW n xs m ys)=r):qbs (n,xs) (m,ys)=(decide (r.2.2=0)&&(decide (r.1=m)&&qkq r.2.1 ys)):=by
 unfold qbs
 simp only[hr]
 obtain⟨a,b,c⟩:=r
 rw[Bool.eq_iff_iff]
 simp only[Prod.mk.injEq,decide_eq_true_eq,Bool.and_eq_true,qkq]
 exact⟨fun⟨h1,h2,h3⟩=>⟨h3,h1,h2⟩,fun⟨h1,h2,h3⟩=>⟨h2,h3,h1⟩⟩
set_option maxHeartbeats 4000000 in
theorem qiu(n m:Int)(A B:Option Addr)(c d:Nat)(xs ys:List Int)(w:World)(hx:Row w A (qam xs))(hy:Row w B (qam ys))(hn:xs.length≤1000000)(hm:ys.length≤1000000) :
  Calls Tryz.prog 159 #[.agg #[Jq n,.slice A xs.length c],.agg #[Jq m,.slice B ys.length d]] w fun e w'=>e=.returned (.bool (qbs (n,xs) (m,ys)))∧Ext w w':=by
 have H0:=hJ ((Ext.new w (.cells #[Jq n,.slice A xs.length c] 46)).alloc (.cells #[Jq m,.slice B ys.length d] 46))
 have hn':xs.length≤9223372036854775807:=by omega
 have hm':ys.length≤9223372036854775807:=by omega
 obtain⟨dl,hdl⟩:∃l,qeW n xs m ys=l:=⟨_,rfl⟩
 have hdn:dl.length≤9223372036854775807:=by
  rw[←hdl]
  unfold qeW
  split
  ·rw[qhT];have:=qdD xs ys false;have:=qdD ys xs false;omega
  ·simp
 obtain⟨⟨nn,zs,er⟩,hr⟩:∃r,qcr n xs dl=r:=⟨_,rfl⟩
 have HF:=hJ (qm5 n m xs ys (r:=(nn,zs,er)) (by rw[hdl];exact hr))
 have HD:=hJ hdl;have HN:=hJ hr
 clear hdl hr;simp only at HF
 have RX0:=hJ (hx.ext H0.out.drew);have RY0:=hJ (hy.ext H0.out.drew)
 have RX1:=hJ (hx.ext ((H0.out.alloc (.cells #[Jq 0,Zq] 46)).drew));have RY1:=hJ (hy.ext ((H0.out.alloc (.cells #[Jq 0,Zq] 46)).drew))
 have HX:=hJ (hx.ext H0.out);have HY:=hJ (hy.ext H0.out)
 clear hx hy;go_enter Tryz.func159,Tryz.ntmps159
 go_upto_region 1 with fail
 go_cut [5,6] (fun s5 s6 wx=>∃p A1 c1,s5=.pointer (some (Pq p 0))∧s6=Jq er∧wx.cell? (Pq p 0)=some (Jq nn)∧wx.cell? (Pq p 1)=some (.slice A1 zs.length c1)∧zs.length≤c1∧c1≤maxLen∧Hid (Row wx A1 (qam zs))∧Ext ((w.alloc (.cells #[Jq n,.slice A xs.length c] 46)).alloc (.cells #[Jq m,.slice B ys.length d] 46)) wx)
 case first=>
  go_region_held3 (fun w'=>w'.cell? (Pw w 0)=some (Jq n)∧w'.cell? (Pw w 1)=some (.slice A xs.length c)∧w'.cell? (Pv w 0)=some (Jq m)∧w'.cell? (Pv w 1)=some (.slice B ys.length d))
   (first|exact⟨r0,r1,r2,r3⟩|exact⟨t0,t1,t2,t3⟩|exact⟨qbv (qbv t0 (by simp only;omega)) (by simp only;omega),qbv (qbv t1 (by simp only;omega)) (by simp only;omega),qbv (qbv t2 (by simp only;omega)) (by simp only;omega),qbv (qbv t3 (by simp only;omega)) (by simp only;omega)⟩|(go_keep;done))
   (first
    | (go_at_call 195;(with_reducible refine(qoU n m A B c d xs ys _ (by first|exact RX0.out|exact RX1.out) (by first|exact RY0.out|exact RY1.out) hn' hm').mono ?_);rw[HD.out];rintro e v1 ⟨A1,c1,rfl,h11,h12,ho1,hx1⟩;have RD0:=hJ ho1.row;have RD1:=hJ (RD0.out.ext (Ext.new _ (.cells #[.int .i64 0,.slice none 0 0] 46)));(first|have X1:Hid (Ext ((w.alloc (.cells #[.int .i64 n,.slice A xs.length c] 46)).alloc (.cells #[.int .i64 m,.slice B ys.length d] 46)) v1):=hJ (Ext.trans (Ext.drew (Ext.refl _)) hx1)|have X1:Hid (Ext ((w.alloc (.cells #[.int .i64 n,.slice A xs.length c] 46)).alloc (.cells #[.int .i64 m,.slice B ys.length d] 46)) v1):=hJ (Ext.trans (Ext.drew (Ext.new _ (.cells #[.int .i64 0,.slice none 0 0] 46))) hx1));have RX2:=hJ (Row.ext (by first|exact RX0.out|exact RX1.out) hx1);have RX3:=hJ (RX2.out.ext (Ext.new _ (.cells #[.int .i64 0,.slice none 0 0] 46)));obtain⟨r0,r1,r2,r3,y1⟩:=qqB X1.out;clear ho1)
    | (go_at_call 194;(with_reducible refine(qpc n A A1 c c1 xs dl _ (by first|exact RX2.out|exact RX3.out) (by first|exact RD0.out|exact RD1.out) hn' hdn).mono ?_);rw[HN.out];rintro e v2 ⟨A2,c2,rfl,h21,h22,ho2,hx2⟩;have RN0:=hJ ho2;have t0:v2.cell? ⟨w.heap.size,0,none⟩=some (.int .i64 n):=(by rw[hx2.cell (by first|exact(show w.heap.size<v1.heap.size by omega)|(simp;omega))];first|exact r0|(rw[(Ext.new v1 _).cell (by exact(show w.heap.size<v1.heap.size by omega))];exact r0));have t1:v2.cell? ⟨w.heap.size,1,none⟩=some (.slice A xs.length c):=(by rw[hx2.cell (by first|exact(show w.heap.size<v1.heap.size by omega)|(simp;omega))];first|exact r1|(rw[(Ext.new v1 _).cell (by exact(show w.heap.size<v1.heap.size by omega))];exact r1));have t2:v2.cell? ⟨w.heap.size+1,0,none⟩=some (.int .i64 m):=(by rw[hx2.cell (by first|exact(show w.heap.size+1<v1.heap.size by omega)|(simp;omega))];first|exact r2|(rw[(Ext.new v1 _).cell (by exact(show w.heap.size+1<v1.heap.size by omega))];exact r2));have t3:v2.cell? ⟨w.heap.size+1,1,none⟩=some (.slice B ys.length d):=(by rw[hx2.cell (by first|exact(show w.heap.size+1<v1.heap.size by omega)|(simp;omega))];first|exact r3|(rw[(Ext.new v1 _).cell (by exact(show w.heap.size+1<v1.heap.size by omega))];exact r3));have y2:w.heap.size+1<v2.heap.size:=(by have:=hx2.size;first|omega|(simp at this;omega));(first|(have k0:v2.cell? ⟨v1.heap.size,0,none⟩=some (.int .i64 0):=(by rw[hx2.cell (by simp)];simp);have k1:v2.cell? ⟨v1.heap.size,1,none⟩=some (.slice none 0 0):=(by rw[hx2.cell (by simp)];simp);have f0:v2.frozen? ⟨v1.heap.size,0,none⟩=false:=(by rw[hx2.frozen (by simp)];simp);have f1:v2.frozen? ⟨v1.heap.size,1,none⟩=false:=(by rw[hx2.frozen (by simp)];simp);have n1:w.heap.size≠v1.heap.size:=(by omega);have n2:w.heap.size+1≠v1.heap.size:=(by omega))|(have y3:w.heap.size+2<v1.heap.size:=(by have:=hx1.size;simp at this;omega);have g1:=hJ (qtV hx1);have k0:v2.cell? ⟨w.heap.size+1+1,0,none⟩=some (.int .i64 0):=(by rw[hx2.cell (by exact y3)];exact g1.out.1);have k1:v2.cell? ⟨w.heap.size+1+1,1,none⟩=some (.slice none 0 0):=(by rw[hx2.cell (by exact y3)];exact g1.out.2.1);have f0:v2.frozen? ⟨w.heap.size+1+1,0,none⟩=false:=(by rw[hx2.frozen (by exact y3)];exact g1.out.2.2.1);have f1:v2.frozen? ⟨w.heap.size+1+1,1,none⟩=false:=(by rw[hx2.frozen (by exact y3)];exact g1.out.2.2.2))|skip);clear ho2))
  ·have X2:=hJ (X1.out.trans hx2)
   go_wp2;go_meet
   case rel=>exact⟨v2.heap.size,A2,c2,rfl,rfl,by simp,by simp,h21,h22,hJ (RN0.out.row.ext (Ext.new _ _)),X2.out.alloc _⟩
  ·have X2:=hJ (X1.out.trans ((Ext.new _ _).trans hx2))
   have RN1:=hJ ((RN0.out.set (p:=(Pw v1 0)) (fun q hq=>by have:=(RN0.out.lt q hq).1;simp at this;simp only;omega) (Jq nn)).set (p:=(Pw v1 1)) (fun q hq=>by have:=(RN0.out.lt q hq).1;simp at this;simp only;omega) (.slice A2 zs.length c2))
   go_wp2;go_meet
   case rel=>exact⟨v1.heap.size,A2,c2,rfl,rfl,by simp[go_sem,k0],by simp[go_sem,k1],h21,h22,hJ RN1.out.row,(X2.out.set (by simp;omega) _).set (by simp;omega) _⟩
  ·have X2:=hJ (X1.out.trans hx2)
   have RN1:=hJ ((RN0.out.set (p:=(Pq (w.heap.size+1+1) 0)) (fun q hq=>by have:=(RN0.out.lt q hq).1;simp only;omega) (Jq nn)).set (p:=(Pq (w.heap.size+1+1) 1)) (fun q hq=>by have:=(RN0.out.lt q hq).1;simp only;omega) (.slice A2 zs.length c2))
   go_wp2;go_meet
   case rel=>exact⟨w.heap.size+1+1,A2,c2,rfl,rfl,by simp[go_sem,k0],by simp[go_sem,k1],h21,h22,hJ RN1.out.row,(X2.out.set (by simp) _).set (by simp) _⟩
 case rest=>
  obtain⟨p,A1,c1,rfl,rfl,s0,s1,h1,h2,HR,HS0⟩:=hcut
  have HS:=hJ HS0;clear HS0
  obtain⟨r0,r1,r2,r3,y1⟩:=qqB HS.out
  by_cases he:er=0
  rotate_left
  ·have he':(er == 0)=false:=beq_eq_false_iff_ne.2 he
   have HE:=hJ he
   clear he;go_wp2;go_ret
   exact⟨qae (by rw[HF.out,decide_eq_false HE.out];rfl),H0.out.trans HS.out⟩
  subst he
  by_cases hv:nn=m
  rotate_left
  ·have hv':(nn == m)=false:=beq_eq_false_iff_ne.2 hv
   have HE:=hJ hv
   clear hv;go_wp2;go_ret
   exact⟨qae (by rw[HF.out,decide_eq_false HE.out];rfl),H0.out.trans HS.out⟩
  subst hv
  go_wp2_with fail
  refine(qnF _ _ _ _ zs ys _ HR.out (HY.out.ext HS.out) (by unfold maxLen at h2;omega)).mono ?_
  rintro e w4 ⟨rfl,hs4⟩
  have X4:=hJ (HS.out.trans hs4.ext)
  clear hs4;go_wp2;go_ret
  exact⟨qae (by rw[HF.out];simp),H0.out.trans X4.out⟩
theorem qfN{l:List Vw}{i:Nat}{v:Vw}(h:l[i]?=some v):qbB l i=v:=by unfold qbB;rw[h];rfl
theorem qph{l:List Vw}(h:¬1≤l.length):qaq l=false:=by unfold qaq;rw[decide_eq_false h];rfl
theorem qrW{l:List Vw}(h:¬l.length≤2000):qaq l=false:=by unfold qaq;rw[decide_eq_false h];simp
theorem qpU{l:List Vw}{v:Vw}(h:l[0]?=some v)(hv:qan v.1 v.2=false):qaq l=false:=by unfold qaq;rw[qfN h,hv];simp
theorem qtD{l:List Vw}{k:Nat}{a b:Vw}(ha:l[k]?=some a)(hb:l[k+1]?=some b)(hf:qbs a b=false):qaq l=false:=by
 have hk:=(List.getElem?_eq_some_iff.1 hb).1
 unfold qaq
 rw[show ((List.range (l.length - 1)).all fun i=>qbs (qbB l i) (qbB l (i+1)))=false from by
  rw[List.all_eq_false]
  exact⟨k,List.mem_range.2 (by omega),by rw[qfN ha,qfN hb,hf];simp⟩]
 simp
theorem qs9{l:List Vw}{v:Vw}(h1:1≤l.length)(h2:l.length≤2000)(h:l[0]?=some v)(hv:qan v.1 v.2=true)(hf:∀j,j<l.length - 1→qbs (qbB l j) (qbB l (j+1))=true):qaq l=true:=by
 unfold qaq
 rw[decide_eq_true h1,decide_eq_true h2,qfN h,hv,show ((List.range (l.length - 1)).all fun i=>qbs (qbB l i) (qbB l (i+1)))=true from by
  rw[List.all_eq_true];exact fun i hi=>hf i (List.mem_range.1 hi)];rfl
theorem qrl{l:List Vw}{k:Nat}{a b:Vw}(ha:l[k]?=some a)(hb:l[k+1]?=some b)(hf:qbs a b=true)(h:∀j,j<k→qbs (qbB l j) (qbB l (j+1))=true):∀j,j<k+1→qbs (qbB l j) (qbB l (j+1))=true:=by
 intro j hj
 rcases Nat.lt_or_ge j k with h1|h1
 ·exact h j h1
 ·rw[show j=k by omega,qfN ha,qfN hb];exact hf
theorem qg7(n m:Int)(A B:Option Addr)(c d:Nat)(xs ys:List Int)(w:World)(hx:Row w A (qam xs))(hy:Row w B (qam ys))(hn:xs.length≤1000000)(hm:ys.length≤1000000)(r:Bool)(hr:qbs (n,xs) (m,ys)=r) :
  Calls Tryz.prog 159 #[.agg #[Jq n,.slice A xs.length c],.agg #[Jq m,.slice B ys.length d]] w fun e w'=>e=.returned (.bool r)∧Ext w w':=by
 subst hr;exact qiu n m A B c d xs ys w hx hy hn hm
set_option maxHeartbeats 2000000 in
theorem qdB(A:Option Addr)(c:Nat)(l:List VwM)(w:World)(h:qas.Box w A l)(hn:l.length≤1000000000)(hm:∀v∈l,v.xs.length≤1000000) :
  Calls Tryz.prog 88 #[.slice A l.length c] w fun e w'=>e=.returned (.bool (qaq (vws l)))∧Ext w w':=by
 have H:=hJ h;have HM:=hJ hm;clear h hm
 by_cases h1:1≤l.length
 rotate_left
 ·have h1':l.length<1:=by omega
  have H1:=hJ h1
  clear h1;go_enter Tryz.func88,Tryz.ntmps88
  go_wp2;go_ret
  exact⟨qae (qph (by rw[qaI];exact H1.out)).symm,Ext.refl _⟩
 have h1':¬l.length<1:=by omega
 have h1i:decide ((l.length:Int)<1)=false:=decide_eq_false (by omega)
 by_cases h2:l.length≤2000
 rotate_left
 ·have h2':2000<l.length:=by omega
  have H2:=hJ h2
  clear h2;go_enter Tryz.func88,Tryz.ntmps88
  go_wp2;go_ret
  exact⟨qae (qrW (by rw[qaI];exact H2.out)).symm,Ext.refl _⟩
 have h2':¬2000<l.length:=by omega
 have h2i:decide ((2000:Int)<(l.length:Int))=false:=decide_eq_false (by omega)
 obtain⟨b,off,n0,X0,cx0,xs0,hA,hb,c0,c1,HR0,hl1,hl2,HX0⟩:=qdk H.out (show 0<l.length by omega)
 simp only[Nat.zero_mul,Nat.add_zero] at c0 c1
 subst hA
 have HP0:=hJ (qfZ HX0.out)
 have hx0:xs0.length≤9223372036854775807:=by have:=HM.out _ (List.mem_of_getElem? HX0.out);simp only at this;omega
 have k0:0<l.length:=by omega
 go_enter Tryz.func88,Tryz.ntmps88
 go_wp2_with fail
 refine(qcZ n0 X0 cx0 xs0 _ HR0.out hx0).mono ?_
 cases hv:qan n0 xs0
 ·have HV:=hJ hv;clear hv
  rintro e w1 ⟨rfl,hx1⟩
  have X1:=hJ hx1;clear hx1
  go_wp2;go_ret
  exact⟨qae (qpU HP0.out HV.out).symm,X1.out⟩
 have HV:=hJ hv;clear hv
 rintro e w1 ⟨rfl,hx1⟩
 have X1:=hJ hx1;clear hx1 c0 c1
 go_wp2;go_loopw [3] (fun i wr=>∃k:Nat,k+1≤l.length∧i=Jq ((k+1:Nat):Int)∧Hid (∀j,j<k→qbs (qbB (vws l) j) (qbB (vws l) (j+1))=true)∧Ext w wr) (fun i _=>l.length - (intOf i).toNat)
 case atStart=>exact⟨0,by omega,rfl,hJ (fun j hj=>absurd hj (Nat.not_lt_zero _)),X1.out⟩
 case round=>
  obtain⟨k,hk,rfl,HT,HS0⟩:=hrel
  have HS:=hJ HS0;clear HS0
  by_cases hlt:k+1<l.length
  ·obtain⟨b1,off1,n1,Y1,cy1,ys1,hA1,hb1,c0,c1,HR1,hl3,hl4,HX1⟩:=qdk (H.out.ext HS.out) (show k<l.length by omega)
   obtain⟨b2,off2,n2,Y2,cy2,ys2,hA2,hb2,d0,d1,HR2,hl5,hl6,HX2⟩:=qdk (H.out.ext HS.out) hlt
   simp only[Option.some.injEq,Addr.mk.injEq,and_true] at hA1 hA2
   obtain⟨rfl,rfl⟩:=hA1
   obtain⟨rfl,rfl⟩:=hA2
   have HP1:=hJ (qfZ HX1.out);have HP2:=hJ (qfZ HX2.out)
   have hy1:ys1.length≤1000000:=HM.out _ (List.mem_of_getElem? HX1.out)
   have hy2:ys2.length≤1000000:=HM.out _ (List.mem_of_getElem? HX2.out)
   have RY1:=hJ (HR1.out.ext (Ext.drew (Ext.refl _)));have RY2:=hJ (HR2.out.ext (Ext.drew (Ext.refl _)))
   obtain⟨i,hi⟩:∃i,k+1=i:=⟨_,rfl⟩
   have HI:=hJ hi
   have hw1:IntKind.i64.wrap ((i:Int) - 1)=(k:Int):=by rw[IntWalk.i64_in _ (by omega)];omega
   have m1:(0:Int)≤(k:Int):=by omega
   have m2:(k:Int)<(l.length:Int):=by omega
   have m3:k<l.length:=by omega
   rw[hi] at d0 d1 hlt⊢
   have hwi:IntKind.i64.wrap ((i:Int)+1)=(i:Int)+1:=IntWalk.i64_in _ (by omega)
   clear hi;cases hf:qbs (n1,ys1) (n2,ys2)
   ·have HF:=hJ hf;clear hf
    go_wp2;refine qed 9 (by kernel_rfl) (by kernel_rfl) ?_
    simp only[List.take_succ_cons,List.take_zero,List.drop_succ_cons,List.drop_zero]
    with_reducible refine qbe (v:=?_) ?_ ?_ ?_
    rotate_left
    ·rfl
    ·(go_simp<;>with_reducible rfl)
    try simp only[Act.put,l1,l2,l3]
    with_reducible refine qbe (v:=?_) ?_ ?_ ?_
    rotate_left
    ·rfl
    ·(go_simp<;>with_reducible rfl)
    try simp only[Act.put,l1,l2,l3]
    with_reducible refine qbe (v:=?_) ?_ ?_ ?_
    rotate_left
    ·rfl
    ·(go_simp<;>with_reducible rfl)
    try simp only[Act.put,l1,l2,l3]
    with_reducible refine qbe (v:=?_) ?_ ?_ ?_
    rotate_left
    ·rfl
    ·(go_simp<;>with_reducible rfl)
    try simp only[Act.put,l1,l2,l3]
    with_reducible refine qbe (v:=?_) ?_ ?_ ?_
    rotate_left
    ·rfl
    ·(go_simp<;>with_reducible rfl)
    try simp only[Act.put,l1,l2,l3]
    with_reducible refine qbe (v:=?_) ?_ ?_ ?_
    rotate_left
    ·rfl
    ·(go_simp<;>with_reducible rfl)
    try simp only[Act.put,l1,l2,l3]
    with_reducible refine qbe (v:=?_) ?_ ?_ ?_
    rotate_left
    ·rfl
    ·(go_simp<;>with_reducible rfl)
    try simp only[Act.put,l1,l2,l3]
    with_reducible refine qbe (v:=?_) ?_ ?_ ?_
    rotate_left
    ·rfl
    ·(go_simp<;>with_reducible rfl)
    try simp only[Act.put,l1,l2,l3]
    with_reducible refine qbe (v:=?_) ?_ ?_ ?_
    rotate_left
    ·rfl
    ·(go_simp<;>with_reducible rfl)
    try simp only[Act.put,l1,l2,l3]
    refine wpStill_nil ?_
    go_wp2_with fail
    refine(qg7 n1 n2 Y1 Y2 cy1 cy2 ys1 ys2 _ RY1.out RY2.out hy1 hy2 _ HF.out).mono ?_
    rintro e w2 ⟨rfl,hx2⟩
    have X2:=hJ (HS.out.drew.trans hx2);clear hx2
    go_wp2;go_ret
    exact⟨qae (qtD HP1.out HP2.out HF.out).symm,X2.out⟩
   ·have HF:=hJ hf;clear hf
    go_wp2;refine qed 9 (by kernel_rfl) (by kernel_rfl) ?_
    simp only[List.take_succ_cons,List.take_zero,List.drop_succ_cons,List.drop_zero]
    with_reducible refine qbe (v:=?_) ?_ ?_ ?_
    rotate_left
    ·rfl
    ·(go_simp<;>with_reducible rfl)
    try simp only[Act.put,l1,l2,l3]
    with_reducible refine qbe (v:=?_) ?_ ?_ ?_
    rotate_left
    ·rfl
    ·(go_simp<;>with_reducible rfl)
    try simp only[Act.put,l1,l2,l3]
    with_reducible refine qbe (v:=?_) ?_ ?_ ?_
    rotate_left
    ·rfl
    ·(go_simp<;>with_reducible rfl)
    try simp only[Act.put,l1,l2,l3]
    with_reducible refine qbe (v:=?_) ?_ ?_ ?_
    rotate_left
    ·rfl
    ·(go_simp<;>with_reducible rfl)
    try simp only[Act.put,l1,l2,l3]
    with_reducible refine qbe (v:=?_) ?_ ?_ ?_
    rotate_left
    ·rfl
    ·(go_simp<;>with_reducible rfl)
    try simp only[Act.put,l1,l2,l3]
    with_reducible refine qbe (v:=?_) ?_ ?_ ?_
    rotate_left
    ·rfl
    ·(go_simp<;>with_reducible rfl)
    try simp only[Act.put,l1,l2,l3]
    with_reducible refine qbe (v:=?_) ?_ ?_ ?_
    rotate_left
    ·rfl
    ·(go_simp<;>with_reducible rfl)
    try simp only[Act.put,l1,l2,l3]
    with_reducible refine qbe (v:=?_) ?_ ?_ ?_
    rotate_left
    ·rfl
    ·(go_simp<;>with_reducible rfl)
    try simp only[Act.put,l1,l2,l3]
    with_reducible refine qbe (v:=?_) ?_ ?_ ?_
    rotate_left
    ·rfl
    ·(go_simp<;>with_reducible rfl)
    try simp only[Act.put,l1,l2,l3]
    refine wpStill_nil ?_
    go_wp2_with fail
    refine(qg7 n1 n2 Y1 Y2 cy1 cy2 ys1 ys2 _ RY1.out RY2.out hy1 hy2 _ HF.out).mono ?_
    rintro e w2 ⟨rfl,hx2⟩
    have X2:=hJ (HS.out.drew.trans hx2);clear hx2
    go_wp2;go_roundw
    case rel=>exact⟨k+1,by have:=HI.out;omega,by have:=HI.out;rw[←this];go_num,hJ (qrl HP1.out HP2.out HF.out HT.out),X2.out⟩
    case measure=>simp[intOf]<;>omega
  ·obtain⟨i,hi⟩:∃i,k+1=i:=⟨_,rfl⟩
   have HI:=hJ hi
   rw[hi] at hlt⊢
   clear hi;go_wp2;go_ret
   exact⟨qae (qs9 (by rw[qaI];exact h1) (by rw[qaI];exact h2) HP0.out HV.out (fun j hj=>HT.out j (by rw[qaI] at hj;have:=HI.out;omega))).symm,HS.out⟩
structure BM where
 self:Int
 base:Int
 stable:Int
 sent:Int
 Av:Option Addr
 cv:Nat
 vs:List VwM
 Al:Option Addr
 cl:Nat
 log:List Ent
 Ap:Option Addr
 cp:Nat
 pend:List (List UInt8)
 Am:Option Addr
 cm:Nat
 marks:List (Int×Int)
 Af:Option Addr
 cf:Nat
 fls:List FlM
def BM.st(b:BM):St:=⟨b.self,vws b.vs,b.base,b.log,b.stable,b.sent,b.pend,b.marks,b.fls.map FlM.v⟩
abbrev BM.cells(b:BM):Array Value:=#[.int .i64 b.self,.slice b.Av b.vs.length b.cv,.int .i64 b.base,.slice b.Al b.log.length b.cl,.int .i64 b.stable,.int .i64 b.sent,.slice b.Ap b.pend.length b.cp,.slice b.Am b.marks.length b.cm,.slice b.Af b.fls.length b.cf]
structure BM.Reads(w:World)(b:BM):Prop where
 vs:qas.Box w b.Av b.vs
 log:Row w b.Al (qaz.cells b.log)
 pend:Row w b.Ap (qda.cells b.pend)
 marks:Row w b.Am (qao.cells b.marks)
 fls:flE.Box w b.Af b.fls
theorem BM.Reads.ext{w w':World}{b:BM}(h:b.Reads w)(e:Ext w w'):b.Reads w':=⟨h.vs.ext e,h.log.ext e,h.pend.ext e,h.marks.ext e,h.fls.ext e⟩
structure BM.Fits(b:BM):Prop where
 vs:b.vs.length≤100000
 vx:∀v∈b.vs,v.xs.length≤1000000
 log:b.log.length≤100000
 lp:∀e∈b.log,e.p.length≤1000000
 pend:b.pend.length≤100000
 pp:∀p∈b.pend,p.length≤1000000
 marks:b.marks.length≤100000
 fls:b.fls.length≤100000
 fl:∀f∈b.fls,f.log.length≤100000∧∀e∈f.log,e.p.length≤1000000
 cl:b.log.length≤b.cl∧b.cl≤maxLen
theorem qe9{l:List VwM}{m:Nat}(h:∀v∈l,v.xs.length≤m):(qaf (vws l)).2.length≤m:=by
 unfold qaf qbB
 cases hi:(vws l)[(vws l).length - 1]? with
 | none=>simp
 | some v=>
  obtain⟨u,hu,rfl⟩:=List.mem_map.1 (List.mem_of_getElem? hi)
  exact h u hu
theorem qeF(n:Int)(A:Option Addr)(k c:Nat)(w:World):(Instr.field 46 (.agg #[Jq n,.slice A k c]) 0).run Tryz.prog w=.ok (Jq n) w:=by
 simp[Instr.field,asAgg,go_sem]
theorem qdj(A:Option Addr)(c:Nat)(l:List VwM)(w:World)(h:qas.Box w A l)(hp:0<l.length)(hn:l.length≤1000000000)(n:Int)(xs:List Int)(hr:qaf (vws l)=(n,xs)) :
  Calls Tryz.prog 49 #[.slice A l.length c] w fun e w'=>∃A c,e=.returned (.agg #[Jq n,.slice A xs.length c])∧xs.length≤c∧c≤maxLen∧Hid (Row w' A (qam xs))∧Ext w w':=by
 have:=qpK A c l w h hp hn
 rw[hr] at this
 exact this
theorem qbw(n:Int)(A:Option Addr)(c:Nat)(xs:List Int)(w:World)(h:Row w A (qam xs))(hn:xs.length≤9223372036854775807)(s:Int)(hs:qbl (n,xs)=s) :
  Calls Tryz.prog 51 #[.agg #[Jq n,.slice A xs.length c]] w fun e w'=>e=.returned (Jq s)∧Ext w w':=by
 subst hs;exact qis n A c xs w h hn
theorem qde(b:BM)(w:World)(h:b.Reads w)(hp:0<b.vs.length)(hf:b.Fits) :
  Calls Tryz.prog 40 #[.agg b.cells] w fun e w'=>e=.returned (.bool (qaL b.st))∧Ext w w':=by
 have H0:=hJ (Ext.new w (.cells b.cells 28))
 have HV:=hJ (h.vs.ext H0.out.drew)
 have hn:b.vs.length≤1000000000:=by have:=hf.vs;omega
 obtain⟨⟨n,xs⟩,hl⟩:∃v,qaf (vws b.vs)=v:=⟨_,rfl⟩
 have HL:=hJ hl
 have HO:Hid (qaL b.st=decide (b.base=n)):=hJ (by show decide (b.base=(qaf (vws b.vs)).1)=_;rw[hl])
 clear h hf hl;unfold BM.cells at H0 HV⊢
 have hfd:=qeF
 go_enter Tryz.func40,Tryz.ntmps40
 go_wp2;go_region_held3 (fun w'=>w'.cell? (Pw w 1)=some (.slice b.Av b.vs.length b.cv)∧w'.cell? (Pw w 2)=some (Jq b.base))
  (first|exact⟨r0,r1⟩|(go_keep;done))
  (first
   | (go_at_call 49;(with_reducible refine(qdj b.Av b.cv b.vs _ (by exact HV.out) hp hn n xs (by exact HL.out)).mono ?_);rintro e v1 ⟨A1,c1,rfl,_,_,_,hx1⟩;have X1:=hJ (Ext.trans H0.out.drew hx1);have r0:v1.cell? ⟨w.heap.size,1,none⟩=some (.slice b.Av b.vs.length b.cv):=(by rw[hx1.cell (by simp)];simp);have r1:v1.cell? ⟨w.heap.size,2,none⟩=some (.int .i64 b.base):=(by rw[hx1.cell (by simp)];simp);clear hx1))
 go_wp2;go_ret
 exact⟨qae (by rw[HO.out,Bool.eq_iff_iff];simp),X1.out⟩
theorem qcU(b:BM)(w:World)(h:b.Reads w)(hp:0<b.vs.length)(hf:b.Fits) :
  Calls Tryz.prog 41 #[.agg b.cells] w fun e w'=>e=.returned (.bool (qaN b.st))∧Ext w w':=by
 have H0:=hJ (Ext.new w (.cells b.cells 28))
 have HV:=hJ (h.vs.ext H0.out.drew)
 have hn:b.vs.length≤1000000000:=by have:=hf.vs;omega
 have hxl:=qe9 hf.vx
 obtain⟨⟨n,xs⟩,hl⟩:∃v,qaf (vws b.vs)=v:=⟨_,rfl⟩
 have HL:=hJ hl
 obtain⟨sq,hsq⟩:∃s,qbl (n,xs)=s:=⟨_,rfl⟩
 have HQ:=hJ hsq
 have HO:Hid (qaN b.st=decide (sq=b.self)):=hJ (by show decide (qbl (qaf (vws b.vs))=b.self)=_;rw[hl,hsq])
 rw[hl] at hxl
 have hxl':xs.length≤9223372036854775807:=by simp only at hxl;omega
 clear h hf hl hsq hxl;unfold BM.cells at H0 HV⊢
 go_enter Tryz.func41,Tryz.ntmps41
 go_wp2;go_region_held3 (fun w'=>w'.cell? (Pw w 1)=some (.slice b.Av b.vs.length b.cv)∧w'.cell? (Pw w 0)=some (Jq b.self))
  (first|exact⟨r0,r1⟩|exact⟨t0,t1⟩|(go_keep;done))
  (first
   | (go_at_call 49;(with_reducible refine(qdj b.Av b.cv b.vs _ (by exact HV.out) hp hn n xs (by exact HL.out)).mono ?_);rintro e v1 ⟨A1,c1,rfl,_,_,HR1,hx1⟩;have X1:=hJ (Ext.trans H0.out.drew hx1);have y1:w.heap.size<v1.heap.size:=(by have:=hx1.size;simp at this;omega);have r0:v1.cell? ⟨w.heap.size,1,none⟩=some (.slice b.Av b.vs.length b.cv):=(by rw[hx1.cell (by simp)];simp);have r1:v1.cell? ⟨w.heap.size,0,none⟩=some (.int .i64 b.self):=(by rw[hx1.cell (by simp)];simp);clear hx1)
   | (go_at_call 51;(with_reducible refine(qbw n A1 c1 xs _ (by exact HR1.out) hxl' sq (by exact HQ.out)).mono ?_);rintro e v2 ⟨rfl,hx2⟩;have X2:=hJ (Ext.trans X1.out hx2);have t0:v2.cell? ⟨w.heap.size,1,none⟩=some (.slice b.Av b.vs.length b.cv):=(by rw[hx2.cell (by exact y1)];exact r0);have t1:v2.cell? ⟨w.heap.size,0,none⟩=some (.int .i64 b.self):=(by rw[hx2.cell (by exact y1)];exact r1);clear hx2))
 go_wp2;go_ret
 exact⟨qae (by rw[HO.out,Bool.eq_iff_iff];simp),X2.out⟩
end Go.Proofs.YtponbabbabnaeaaGreat
namespace Go.Proofs.YtponbabbabnaeaaGreat
section
variable {P : Program} {ops : Array Oper} {Q : Exit → Act → World → Prop} {md : Region.Mode} {S : World → Prop}
theorem qaC (i d : Nat) {oi : Oper} {v : Value} {fuel : Nat} {listed : Array Bool} {a a' : Act} {w : World} (h : wpAnyH P md ops Q S fuel (listed.setIfInBounds i true) a' w)
    (hi : ops[i]? = some oi := by rfl) (hd : oi.dst = some d := by rfl) (hs : Region.noSelect ops = true := by kernel_rfl) (hf : Region.free md ops listed i = true := by kernel_rfl) (hr : (Region.ready md ops listed).contains i = true := by kernel_rfl)
    (hy : ∀ w9, S w9 → (execOp a.eval oi).run P w9 = .ok (.value v) w9 := by intro w9 hSw; (try dsimp only at hSw); go_simp <;> with_reducible rfl)
    (ha : a.put (some d) v = a' := by simp only [Act.put, l1, l2, l3] <;> rfl) (hQ : ∀ c a w, Q (.panic c) (a.put oi.dst v) w → Q (.panic c) a w := by exact fun _ _ _ h => h)
    (hw : Region.wanted oi (yielded ops a.tmps) = true := by rfl) (hS : S w := by assumption) : wpAnyH P md ops Q S (fuel + 1) listed a w := by
  subst ha; rw [← hd] at h; exact wpAnyH_take hi hs hf hr hQ (Or.inl ⟨hw, hy⟩) hS h
end
end Go.Proofs.YtponbabbabnaeaaGreat
namespace Go.Proofs.YtponbabbabnaeaaGreat
open Go.RowKit
theorem qod{vs:List Vw}{f:Fls}(hb:f.2.1≠-1)(h:qaA vs f.2.1=none):qbL vs f=false:=by unfold qbL;rw[if_neg hb,h];rfl
theorem qmL{vs:List Vw}{f:Fls}{v:Vw}(hb:f.2.1≠-1)(h:qaA vs f.2.1=some v)(hl:¬f.2.1<(qaf vs).1):qbL vs f=false:=by unfold qbL;rw[if_neg hb,h];simp only[decide_eq_false hl,Bool.false_and]
theorem qqh{vs:List Vw}{f:Fls}{v:Vw}(hb:f.2.1≠-1)(h:qaA vs f.2.1=some v)(hw:qbr v.2 f.1=false):qbL vs f=false:=by unfold qbL;rw[if_neg hb,h];simp only[hw,Bool.and_false,Bool.false_and]
theorem qpy{vs:List Vw}{f:Fls}{v:Vw}(hb:f.2.1≠-1)(h:qaA vs f.2.1=some v)(hl:f.2.1<(qaf vs).1)(hw:qbr v.2 f.1=true):qbL vs f=qaX f.2.2 f.2.1:=by unfold qbL;rw[if_neg hb,h];simp only[decide_eq_true hl,hw,Bool.and_self,Bool.true_and]
theorem qrM{vs:List Vw}{f:Fls}(hb:f.2.1 = -1):qbL vs f=qaX f.2.2 f.2.1:=by unfold qbL;rw[if_pos hb,Bool.true_and]
theorem qa6(A:Option Addr)(c:Nat)(xs:List Int)(id:Int)(w:World)(h:Row w A (qam xs))(hn:xs.length≤9223372036854775807)(b:Bool)(hb:qbr xs id=b) :
  Calls Tryz.prog 85 #[.slice A xs.length c,Jq id] w fun e w'=>e=.returned (.bool b)∧w'=w:=by
 subst hb;exact(qbH A c xs id w h hn).mono fun e w' h=>⟨h.1,h.2.symm⟩
theorem qm8{vs:List Vw}{n:Int}{v:Vw}(h:qaA vs n=some v):0<vs.length:=by
 have:=List.mem_of_find?_eq_some h
 exact List.length_pos_of_mem this
set_option maxHeartbeats 2000000 in
theorem qgb(Av:Option Addr)(cv:Nat)(vs:List VwM)(f:FlM)(w:World)(h:qas.Box w Av vs)(hf:Row w f.A (qaz.cells f.log))(hn:vs.length≤1000000000)(hx:∀v∈vs,v.xs.length≤1000000)
  (hl:f.log.length≤1000000000) (hlp:∀e∈f.log,e.p.length≤1000000) :
  Calls Tryz.prog 145 #[.slice Av vs.length cv,.agg #[Jq f.m,Jq f.b,.slice f.A f.log.length f.c]] w fun e w'=>e=.returned (.bool (qbL (vws vs) f.v))∧Ext w w':=by
 have H0:=hJ (Ext.new w (.cells #[Jq f.m,Jq f.b,.slice f.A f.log.length f.c] 80))
 have HV:=hJ (h.ext H0.out);have HF:=hJ (hf.ext H0.out);have HXX:=hJ hx;have HLP:=hJ hlp
 clear h hf hx hlp;by_cases hb:f.b = -1
 ·have HB:=hJ (qrM (vs:=vws vs) (f:=f.v) hb)
  have hb':(f.b != -1)=false:=by simp[hb]
  clear hb;go_enter Tryz.func145,Tryz.ntmps145
  go_wp2_with fail
  refine(qc4 f.A f.c f.log f.b _ HF.out hl HLP.out).mono ?_
  rintro e w2 ⟨rfl,hx2⟩
  have X2:=hJ (H0.out.trans hx2);clear hx2
  go_wp2;go_ret
  exact⟨qae HB.out.symm,X2.out⟩
 have HB:=hJ hb
 have hb':(f.b != -1)=true:=by simp[hb]
 clear hb;go_enter Tryz.func145,Tryz.ntmps145
 go_wp2_with fail
 refine(qg0 Av cv vs f.b _ HV.out hn).mono ?_
 cases hk:qaA (vws vs) f.b with
 | none=>
  have HK:=hJ (qod (f:=f.v) HB.out hk)
  clear hk;rintro e w1 ⟨A1,c1,rfl,_,_,_,hx1⟩
  have X1:=hJ hx1;clear hx1
  simp only[Option.getD_none,Option.isSome_none,List.length_nil]
  go_wp2;go_quiet (fail)
  go_wp2;go_ret
  exact⟨qae HK.out.symm,H0.out.trans ((X1.out.alloc _).drewN _)⟩
 | some v=>
  obtain⟨vn,xs⟩:=v
  have hp:0<vs.length:=by have:=qm8 hk;rwa [qaI] at this
  have HK:=hJ hk
  have hxl:xs.length≤9223372036854775807:=by
   have:=List.mem_of_find?_eq_some hk
   obtain⟨u,hu,hv⟩:=List.mem_map.1 this
   have:=HXX.out u hu
   have e:u.xs=xs:=by have:=congrArg Prod.snd hv;exact this
   rw[e] at this;omega
  clear hk;rintro e w1 ⟨A1,c1,rfl,_,_,HR1,hx1⟩
  have X1:=hJ hx1;clear hx1
  simp only[Option.getD_some,Option.isSome_some] at HR1⊢
  obtain⟨⟨ln,lxs⟩,hl2⟩:∃v,qaf (vws vs)=v:=⟨_,rfl⟩
  have HL:=hJ hl2;clear hl2
  have hfd:=qeF
  have X3:=hJ (X1.out.alloc (.cells #[Jq vn,.slice A1 xs.length c1] 46))
  have RV:=hJ (HV.out.ext X3.out.drew);have R1:=hJ (HR1.out.ext (Ext.drew (Ext.new _ (.cells #[Jq vn,.slice A1 xs.length c1] 46))))
  have zz:w.heap.size<w1.heap.size:=by have:=X1.out.size;simp at this;omega
  have q0:w1.cell? (Pw w 0)=some (Jq f.m):=by simpa using X1.out.cell_new 0
  have q1:w1.cell? (Pw w 1)=some (Jq f.b):=by simpa using X1.out.cell_new 1
  have q2:w1.cell? (Pw w 2)=some (.slice f.A f.log.length f.c):=by simpa using X1.out.cell_new 2
  have s0:(w1.alloc (.cells #[Jq vn,.slice A1 xs.length c1] 46)).cell? (Pw w 0)=some (Jq f.m):=by simpa using X3.out.cell_new 0
  have s1:(w1.alloc (.cells #[Jq vn,.slice A1 xs.length c1] 46)).cell? (Pw w 1)=some (Jq f.b):=by simpa using X3.out.cell_new 1
  have s2:(w1.alloc (.cells #[Jq vn,.slice A1 xs.length c1] 46)).cell? (Pw w1 1)=some (.slice A1 xs.length c1):=by simp
  by_cases hlt:f.b<ln
  rotate_left
  ·have HLT:=hJ (qmL (f:=f.v) HB.out HK.out (by rw[HL.out];exact hlt))
   have hlt':decide (ln≤f.b)=true:=decide_eq_true (by omega)
   clear hlt;go_wp2;refine wp_region_held_drew (S:=fun w'=>w'.cell? (Pw w 0)=some (Jq f.m)∧w'.cell? (Pw w 1)=some (Jq f.b)∧w'.cell? (Pw w1 1)=some (.slice A1 xs.length c1)) (by kernel_rfl) ⟨s0,s1,s2⟩ (fun hHeld=>?_)
   refine qaC 0 17 ?_
   refine qaC 1 18 ?_
   refine qaC 2 19 ?_
   refine qaC 3 20 ?_
   refine qaC 4 21 ?_
   refine qaC 5 22 ?_
   refine wpAnyH_ready (rs:=[6]) (by kernel_rfl) (by simp) ?_
   refine AllReadyH.cons (o:=⟨some 23,_,_,_,_,_⟩) rfl (fun K hK=>?_) AllReadyH.nil
   go_simp;go_at_call 49;refine(qdj Av cv vs _ RV.out hp hn ln lxs HL.out).mono ?_
   rintro e w4 ⟨A4,c4,rfl,_,_,_,hx4⟩
   have X4:=hJ ((X3.out.drew).trans hx4)
   have r0:w4.cell? (Pw w 0)=some (Jq f.m):=by simpa using X4.out.cell_new 0
   have r1:w4.cell? (Pw w 1)=some (Jq f.b):=by simpa using X4.out.cell_new 1
   have r2:w4.cell? (Pw w1 1)=some (.slice A1 xs.length c1):=by rw[hx4.cell (by simp)];simp
   clear hHeld hx4;refine hK.out _ _ ⟨r0,r1,r2⟩ (fun hHeld=>?_)
   try simp only[Act.put,l1,l2,l3]
   refine qaC 7 24 ?_
   refine qaC 8 25 ?_
   refine qaC 9 26 ?_
   refine qaC 10 27 ?_
   refine wpAnyH_take (i:=11) (oi:=⟨some 28,_,_,_,_,_⟩) (v:=undef) rfl (by kernel_rfl) (by kernel_rfl) (by kernel_rfl) (fun _ _ _ h=>h) (Or.inr ⟨by rfl,rfl⟩) (by assumption) ?_
   try simp only[Act.put,l1,l2,l3]
   refine wpAnyH_take (i:=12) (oi:=⟨some 29,_,_,_,_,_⟩) (v:=undef) rfl (by kernel_rfl) (by kernel_rfl) (by kernel_rfl) (fun _ _ _ h=>h) (Or.inr ⟨by rfl,rfl⟩) (by assumption) ?_
   try simp only[Act.put,l1,l2,l3]
   refine wpAnyH_take (i:=13) (oi:=⟨some 30,_,_,_,_,_⟩) (v:=undef) rfl (by kernel_rfl) (by kernel_rfl) (by kernel_rfl) (fun _ _ _ h=>h) (Or.inr ⟨by rfl,rfl⟩) (by assumption) ?_
   try simp only[Act.put,l1,l2,l3]
   refine wpAnyH_take (i:=14) (oi:=⟨some 31,_,_,_,_,_⟩) (v:=undef) rfl (by kernel_rfl) (by kernel_rfl) (by kernel_rfl) (fun _ _ _ h=>h) (Or.inr ⟨by rfl,rfl⟩) (by assumption) ?_
   try simp only[Act.put,l1,l2,l3]
   refine wpAnyH_take (i:=15) (oi:=⟨some 32,_,_,_,_,_⟩) (v:=undef) rfl (by kernel_rfl) (by kernel_rfl) (by kernel_rfl) (fun _ _ _ h=>h) (Or.inr ⟨by rfl,rfl⟩) (by assumption) ?_
   try simp only[Act.put,l1,l2,l3]
   refine wpAnyH_take (i:=16) (oi:=⟨some 33,_,_,_,_,_⟩) (v:=undef) rfl (by kernel_rfl) (by kernel_rfl) (by kernel_rfl) (fun _ _ _ h=>h) (Or.inr ⟨by rfl,rfl⟩) (by assumption) ?_
   try simp only[Act.put,l1,l2,l3]
   refine qaC 17 34 ?_
   refine wpAnyH_done (by kernel_rfl) ?_ _
   go_wp2;go_ret
   exact⟨qae HLT.out.symm,H0.out.trans X4.out⟩
  have HLT:=hJ (show f.v.2.1<(qaf (vws vs)).1 by rw[HL.out];exact hlt)
  have hlt':decide (ln≤f.b)=false:=decide_eq_false (by omega)
  clear hlt;cases hh:qbr xs f.m
  ·have HH:=hJ (qqh (f:=f.v) HB.out HK.out hh)
   have HHH:=hJ hh
   clear hh;go_wp2;go_region_held3 (fun w'=>w'.cell? (Pw w 0)=some (Jq f.m)∧w'.cell? (Pw w 1)=some (Jq f.b)∧w'.cell? (Pw w1 1)=some (.slice A1 xs.length c1))
    (first|exact⟨s0,s1,s2⟩|exact⟨r0,r1,r2⟩)
    (first
     | (go_at_call 49;(with_reducible refine(qdj Av cv vs _ (by exact RV.out) hp hn ln lxs (by exact HL.out)).mono ?_);rintro e w4 ⟨A4,c4,rfl,_,_,_,hx4⟩;have X4:=hJ (Ext.trans (X3.out.drew) hx4);have R4:=hJ (R1.out.ext hx4);have r0:w4.cell? ⟨w.heap.size,0,none⟩=some (.int .i64 f.m):=(by simpa using X4.out.cell_new 0);have r1:w4.cell? ⟨w.heap.size,1,none⟩=some (.int .i64 f.b):=(by simpa using X4.out.cell_new 1);have r2:w4.cell? ⟨w1.heap.size,1,none⟩=some (.slice A1 xs.length c1):=(by rw[hx4.cell (by simp)];simp);clear hx4)
     | (go_at_call 85;(with_reducible refine(qa6 A1 c1 xs f.m _ (by exact R4.out) hxl _ (by exact HHH.out)).mono ?_);rintro e w5 ⟨rfl,rfl⟩))
   go_wp2;go_ret
   exact⟨qae HH.out.symm,H0.out.trans X4.out⟩
  ·have HH:=hJ (qpy (f:=f.v) HB.out HK.out HLT.out hh)
   have HHH:=hJ hh
   clear hh;go_wp2;go_region_held3 (fun w'=>w'.cell? (Pw w 0)=some (Jq f.m)∧w'.cell? (Pw w 1)=some (Jq f.b)∧w'.cell? (Pw w1 1)=some (.slice A1 xs.length c1))
    (first|exact⟨s0,s1,s2⟩|exact⟨r0,r1,r2⟩)
    (first
     | (go_at_call 49;(with_reducible refine(qdj Av cv vs _ (by exact RV.out) hp hn ln lxs (by exact HL.out)).mono ?_);rintro e w4 ⟨A4,c4,rfl,_,_,_,hx4⟩;have X4:=hJ (Ext.trans (X3.out.drew) hx4);have R4:=hJ (R1.out.ext hx4);have r0:w4.cell? ⟨w.heap.size,0,none⟩=some (.int .i64 f.m):=(by simpa using X4.out.cell_new 0);have r1:w4.cell? ⟨w.heap.size,1,none⟩=some (.int .i64 f.b):=(by simpa using X4.out.cell_new 1);have r2:w4.cell? ⟨w1.heap.size,1,none⟩=some (.slice A1 xs.length c1):=(by rw[hx4.cell (by simp)];simp);clear hx4)
     | (go_at_call 85;(with_reducible refine(qa6 A1 c1 xs f.m _ (by exact R4.out) hxl _ (by exact HHH.out)).mono ?_);rintro e w5 ⟨rfl,rfl⟩))
   have r3:w5.cell? (Pw w 2)=some (.slice f.A f.log.length f.c):=by simpa using X4.out.cell_new 2
   go_wp2_with fail
   refine(qc4 f.A f.c f.log f.b _ (HF.out.ext X4.out) hl HLP.out).mono ?_
   rintro e w6 ⟨rfl,hx5⟩
   have X5:=hJ (X4.out.trans hx5);clear hx5
   go_wp2;go_ret
   exact⟨qae HH.out.symm,H0.out.trans X5.out⟩
end Go.Proofs.YtponbabbabnaeaaGreat
