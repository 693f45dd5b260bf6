/- Part 7 of the proof: contracts of functions that the statement reaches. Conditions: as each theorem says. -/
import Derived.Test.YtponbabbabnaeaaGreatQd01
import Derived.Test.YtponbabbabnaeaaGreatQd06
set_option maxRecDepth 100000
namespace Go.Proofs.YtponbabbabnaeaaGreat
open Go.RowKit
theorem qlm {P : Prop} (h : P := by
 refine⟨?_,?_,?_,?_,?_,?_,?_,?_,?_,?_⟩
 ·simpa using h.cell_new 0
 ·simpa using h.cell_new 1
 ·simpa using h.cell_new 2
 ·simpa using h.cell_new 3
 ·simpa using h.cell_new 4
 ·simpa using h.cell_new 5
 ·simpa using h.cell_new 6
 ·simpa using h.cell_new 7
 ·simpa using h.cell_new 8
 ·have:=h.size;simp at this;omega) : P := h
theorem qk4{w w':World}{b:BM}(h:Ext (w.alloc (.cells b.cells 28)) w') :
  w'.cell? (Pq w.heap.size 0)=some (Jq b.self)∧w'.cell? (Pq w.heap.size 1)=some (.slice b.Av b.vs.length b.cv)∧w'.cell? (Pq w.heap.size 2)=some (Jq b.base)∧w'.cell? (Pq w.heap.size 3)=some (.slice b.Al b.log.length b.cl)∧w'.cell? (Pq w.heap.size 4)=some (Jq b.stable)∧w'.cell? (Pq w.heap.size 5)=some (Jq b.sent)∧w'.cell? (Pq w.heap.size 6)=some (.slice b.Ap b.pend.length b.cp)∧w'.cell? (Pq w.heap.size 7)=some (.slice b.Am b.marks.length b.cm)∧w'.cell? (Pq w.heap.size 8)=some (.slice b.Af b.fls.length b.cf)∧w.heap.size<w'.heap.size:=by
 exact qlm
theorem open_b(b:BM)(w:World)(h:b.Reads w)(hp:0<b.vs.length)(hf:b.Fits)(r:Bool)(hr:qaL b.st=r) :
  Calls Tryz.prog 40 #[.agg b.cells] w fun e w'=>e=.returned (.bool r)∧Ext w w':=by
 subst hr;exact qde b w h hp hf
theorem qiB(b:BM)(w:World)(h:b.Reads w)(hp:0<b.vs.length)(hf:b.Fits)(r:Bool)(hr:qaN b.st=r) :
  Calls Tryz.prog 41 #[.agg b.cells] w fun e w'=>e=.returned (.bool r)∧Ext w w':=by
 subst hr;exact qcU b w h hp hf
abbrev BM.cells2(b:BM)(Am Af:Option Addr):Array Value:=#[.int .i64 b.self,.slice b.Av b.vs.length b.cv,.int .i64 b.base,.slice b.Al b.log.length b.cl,.int .i64 b.stable,.int .i64 b.sent,.slice b.Ap b.pend.length b.cp,.slice Am b.marks.length b.cm,.slice Af b.fls.length b.cf]
theorem qhh{w w':World}{b:BM}{Am Af:Option Addr}(h:Ext (w.alloc (.cells (b.cells2 Am Af) 28)) w') :
  w'.cell? (Pq w.heap.size 0)=some (Jq b.self)∧w'.cell? (Pq w.heap.size 1)=some (.slice b.Av b.vs.length b.cv)∧w'.cell? (Pq w.heap.size 2)=some (Jq b.base)∧w'.cell? (Pq w.heap.size 3)=some (.slice b.Al b.log.length b.cl)∧w'.cell? (Pq w.heap.size 4)=some (Jq b.stable)∧w'.cell? (Pq w.heap.size 5)=some (Jq b.sent)∧w'.cell? (Pq w.heap.size 6)=some (.slice b.Ap b.pend.length b.cp)∧w'.cell? (Pq w.heap.size 7)=some (.slice Am b.marks.length b.cm)∧w'.cell? (Pq w.heap.size 8)=some (.slice Af b.fls.length b.cf)∧w.heap.size<w'.heap.size:=by
 exact qlm
theorem qtj(b:BM)(Am Af:Option Addr)(w:World)(h1:b.Am=Am)(h2:b.Af=Af)(h:b.Reads w)(hp:0<b.vs.length)(hf:b.Fits)(r:Bool)(hr:qaL b.st=r) :
  Calls Tryz.prog 40 #[.agg #[Jq b.self,.slice b.Av b.vs.length b.cv,Jq b.base,.slice b.Al b.log.length b.cl,Jq b.stable,Jq b.sent,.slice b.Ap b.pend.length b.cp,.slice Am b.marks.length b.cm,.slice Af b.fls.length b.cf]] w fun e w'=>e=.returned (.bool r)∧Ext w w':=by
 subst h1 h2;exact open_b b w h hp hf r hr
theorem qr3(b:BM)(Am Af:Option Addr)(w:World)(h1:b.Am=Am)(h2:b.Af=Af)(h:b.Reads w)(hp:0<b.vs.length)(hf:b.Fits)(r:Bool)(hr:qaN b.st=r) :
  Calls Tryz.prog 41 #[.agg #[Jq b.self,.slice b.Av b.vs.length b.cv,Jq b.base,.slice b.Al b.log.length b.cl,Jq b.stable,Jq b.sent,.slice b.Ap b.pend.length b.cp,.slice Am b.marks.length b.cm,.slice Af b.fls.length b.cf]] w fun e w'=>e=.returned (.bool r)∧Ext w w':=by
 subst h1 h2;exact qiB b w h hp hf r hr
def qtq(s:St):Bool:=(decide (0<s.marks.length)&&(!qaL s||!qaN s))||(decide (0<s.fls.length)&&(qaL s||!qaN s))
theorem qpR(s:St):qca s=(!qtq s&&((List.range s.marks.length).all (qbo s)&&(List.range s.fls.length).all (qdm s))):=by
 unfold qca qtq
 have e1:decide (s.marks.length=0)=!decide (0<s.marks.length):=by rw[Bool.eq_iff_iff];simp
 have e2:decide (s.fls.length=0)=!decide (0<s.fls.length):=by rw[Bool.eq_iff_iff];simp
 rw[e1,e2]
 cases decide (0<s.marks.length)<;>cases decide (0<s.fls.length)<;>cases qaL s<;>cases qaN s<;>simp
theorem qfh{w:World}{A:Option Addr}{l:List (Int×Int)}{i:Nat}(h:Row w A (qao.cells l))(hi:i<l.length) :
  ∃b off m,A=some (Pq b off)∧b<w.heap.size∧w.cell? (Pq b (off+i*2))=some (Jq (Prod.fst m))∧w.cell? (Pq b (off+i*2+1))=some (Jq m.2)∧Hid (l[i]?=some m):=by
 obtain⟨b,off,m,h1,h2,h3,_,h5⟩:=Elem.Box.at_ (E:=qao) (w:=w) (A:=A) (l:=l) ⟨h,fun a _=>⟨trivial,fun r hr=>by simp[qao] at hr⟩⟩ hi
 have h3':∀j u,(qao.f m)[j]?=some u→w.cell? (Pq b (off+i*2+j))=some u:=h3.out
 exact⟨b,off,m,h1,h2,by simpa using h3' 0 _ rfl,h3' 1 _ rfl,h5⟩
theorem qgC{w:World}{A:Option Addr}{l:List FlM}{i:Nat}(h:flE.Box w A l)(hi:i<l.length) :
  ∃b off f,A=some (Pq b off)∧b<w.heap.size∧w.cell? (Pq b (off+i*3))=some (Jq (FlM.m f))∧w.cell? (Pq b (off+i*3+1))=some (Jq f.b)∧w.cell? (Pq b (off+i*3+2))=some (.slice f.A f.log.length f.c)∧Hid (Row w f.A (qaz.cells f.log))∧Hid (l[i]?=some f):=by
 obtain⟨b,off,f,h1,h2,h3,h4,h5⟩:=h.at_ hi
 have h3':∀j u,(flE.f f)[j]?=some u→w.cell? (Pq b (off+i*3+j))=some u:=h3.out
 exact⟨b,off,f,h1,h2,by simpa using h3' 0 _ rfl,h3' 1 _ rfl,h3' 2 _ rfl,hJ (h4.out.2 (f.A,qaz.cells f.log) (by simp[flE])),h5⟩
theorem qbm(n:Int)(A:Option Addr)(k c:Nat)(w:World):(Instr.field 46 (.agg #[Jq n,.slice A k c]) 1).run Tryz.prog w=.ok (.slice A k c) w:=by
 simp[Instr.field,asAgg,go_sem]
theorem qoW{l:List (Int×Int)}{k:Nat}{m:Int×Int}(h:l[k]?=some m):qqV l (k+1)=m.1:=by unfold qqV;rw[if_neg (by omega),Nat.add_sub_cancel,h];rfl
theorem qm9{l:List Fls}{k:Nat}{m:Fls}(h:l[k]?=some m):qqv l (k+1)=m.1:=by unfold qqv;rw[if_neg (by omega),Nat.add_sub_cancel,h];rfl
theorem qqR{n k:Nat}{p:Nat→Bool}(hk:k<n)(h:p k=false):(List.range n).all p=false:=by
 rw[List.all_eq_false];exact⟨k,List.mem_range.2 hk,by simp[h]⟩
theorem qnr{n:Nat}{p:Nat→Bool}(h:∀j,j<n→p j=true):(List.range n).all p=true:=by
 rw[List.all_eq_true];exact fun j hj=>h j (List.mem_range.1 hj)
theorem qk5{k:Nat}{p:Nat→Bool}(h:∀j,j<k→p j=true)(hk:p k=true):∀j,j<k+1→p j=true:=by
 intro j hj
 rcases Nat.lt_or_ge j k with h1|h1
 ·exact h j h1
 ·rw[show j=k by omega];exact hk
theorem qnu{b:BM}{k:Nat}(hlt:k<b.marks.length)(hE:qca b.st=(!false&&((List.range b.st.marks.length).all (qbo b.st)&&(List.range b.st.fls.length).all (qdm b.st))))(h:qbo b.st k=false):false=qca b.st:=by
 rw[hE,qqR (n:=b.st.marks.length) (k:=k) hlt h];rfl
theorem qiG(b:BM):b.st.fls.length=b.fls.length:=by show (b.fls.map FlM.v).length=_;rw[List.length_map]
theorem qrB{b:BM}{k:Nat}(hlt:k<b.fls.length)(hE:qca b.st=(!false&&((List.range b.st.marks.length).all (qbo b.st)&&(List.range b.st.fls.length).all (qdm b.st))))(hm:(List.range b.st.marks.length).all (qbo b.st)=true)(h:qdm b.st k=false):false=qca b.st:=by
 rw[hE,hm,qqR (n:=b.st.fls.length) (k:=k) (by rw[qiG];exact hlt) h];rfl
theorem qtK{b:BM}(hE:qca b.st=(!false&&((List.range b.st.marks.length).all (qbo b.st)&&(List.range b.st.fls.length).all (qdm b.st))))(hm:(List.range b.st.marks.length).all (qbo b.st)=true)(h:∀j,j<b.fls.length→qdm b.st j=true):true=qca b.st:=by
 rw[hE,hm,qnr (n:=b.st.fls.length) (fun j hj=>h j (by rw[qiG] at hj;exact hj))];rfl
theorem qsR{s:St}{k:Nat}{m:Int×Int}(h:s.marks[k]?=some m):qbo s k=qe2 s k m:=by unfold qbo;rw[h]
theorem qsJ{s:St}{k:Nat}{f:Fls}(h:s.fls[k]?=some f):qdm s k=qrj s k f:=by unfold qdm;rw[h]
set_option maxHeartbeats 8000000 in
theorem qhy(b:BM)(Am Af:Option Addr)(w:World)(hAm:b.Am=Am)(hAf:b.Af=Af)(h:b.Reads w)(hp:0<b.vs.length)(hf:b.Fits) :
  Calls Tryz.prog 92 #[.agg #[Jq b.self,.slice b.Av b.vs.length b.cv,Jq b.base,.slice b.Al b.log.length b.cl,Jq b.stable,Jq b.sent,.slice b.Ap b.pend.length b.cp,.slice Am b.marks.length b.cm,.slice Af b.fls.length b.cf]] w fun e w'=>e=.returned (.bool (qca b.st))∧Ext w w':=by
 have H0:=hJ (Ext.new w (.cells (b.cells2 Am Af) 28))
 have HR:=hJ (h.ext H0.out)
 have hn:b.vs.length≤1000000000:=by have:=hf.vs;omega
 have hml:b.marks.length≤1000000000:=by have:=hf.marks;omega
 have hfl:b.fls.length≤1000000000:=by have:=hf.fls;omega
 have hll:b.log.length≤1000000000:=by have:=hf.log;omega
 have hxl0:=qe9 hf.vx
 have HFT:=hJ hf
 have HAm:=hJ hAm;have HAf:=hJ hAf
 clear h hf hAm hAf;have HE:=hJ (qpR b.st)
 obtain⟨bad,hbad⟩:∃x,qtq b.st=x:=⟨_,rfl⟩
 rw[hbad] at HE
 have HBAD:Hid (((decide (0<b.marks.length)&&(!qaL b.st||!qaN b.st))||(decide (0<b.fls.length)&&(qaL b.st||!qaN b.st)))=bad):=hJ (by
  rw[←hbad];show _=((decide (0<b.marks.length)&&_)||(decide (0<(b.fls.map FlM.v).length)&&_));rw[List.length_map])
 clear hbad;obtain⟨ob,hob⟩:∃x,qaL b.st=x:=⟨_,rfl⟩
 obtain⟨lb,hlb⟩:∃x,qaN b.st=x:=⟨_,rfl⟩
 have HOB:=hJ hob;have HLB:=hJ hlb
 rw[hob,hlb] at HBAD
 clear hob hlb;unfold BM.cells2 at H0 HR
 go_enter Tryz.func92,Tryz.ntmps92
 go_upto_region 1 with fail
 go_cut [36] (fun s36 wx=>s36=.bool bad∧Ext (w.alloc (.cells (b.cells2 Am Af) 28)) wx)
 case first=>
  obtain⟨bm,hbm⟩:∃x,decide (0<b.marks.length)=x:=⟨_,rfl⟩
  obtain⟨bf,hbf⟩:∃x,decide (0<b.fls.length)=x:=⟨_,rfl⟩
  have hbm2:decide ((0:Int)<(b.marks.length:Int))=bm:=by rw[←hbm,Bool.eq_iff_iff];simp
  have hbf2:decide ((0:Int)<(b.fls.length:Int))=bf:=by rw[←hbf,Bool.eq_iff_iff];simp
  rw[hbm,hbf] at HBAD
  have X:=hJ (Ext.refl (w.alloc (.cells (b.cells2 Am Af) 28)))
  cases bm<;>cases bf<;>cases ob<;>cases lb<;>
   (go_wp2_with (first
    | (go_at_call 40;refine(qtj b Am Af _ HAm.out HAf.out (HR.out.ext X.out) hp HFT.out _ HOB.out).mono ?_;rintro e wn ⟨rfl,hxn⟩;have X:=hJ (Ext.trans X.out hxn);clear hxn;obtain⟨q0,q1,q2,q3,q4,q5,q6,q7,q8,zz⟩:=qhh X.out)
    | (go_at_call 41;refine(qr3 b Am Af _ HAm.out HAf.out (HR.out.ext X.out) hp HFT.out _ HLB.out).mono ?_;rintro e wn ⟨rfl,hxn⟩;have X:=hJ (Ext.trans X.out hxn);clear hxn;obtain⟨q0,q1,q2,q3,q4,q5,q6,q7,q8,zz⟩:=qhh X.out))
    go_meet
    case rel=>exact⟨by rw[←HBAD.out];rfl,X.out⟩)
 case rest=>
  obtain⟨rfl,HX0⟩:=hcut
  have X1:=hJ HX0;clear HX0
  obtain⟨q0,q1,q2,q3,q4,q5,q6,q7,q8,z1⟩:=qhh X1.out
  clear HBAD;cases bad
  rotate_left
  ·go_wp2
   go_ret
   exact⟨qae (by rw[HE.out];rfl),H0.out.trans X1.out⟩
  obtain⟨⟨ln,lxs⟩,hl2⟩:∃v,qaf (vws b.vs)=v:=⟨_,rfl⟩
  have HL:=hJ hl2
  have HLV:Hid (qaf b.st.views=(ln,lxs)):=hJ hl2
  rw[hl2] at hxl0
  have hxl:lxs.length≤9223372036854775807:=by simp only at hxl0;omega
  clear hl2 hxl0;have hfd:=qbm
  go_wp2;go_loopw [3,40] (fun bf i wr=>∃k:Nat,k≤b.marks.length∧i=Jq k∧bf=Jq (qqV b.marks k)∧Hid (∀j,j<k→qbo b.st j=true)∧Ext (w.alloc (.cells (b.cells2 Am Af) 28)) wr) (fun _ i _=>b.marks.length - (intOf i).toNat)
  case atStart=>exact⟨0,Nat.zero_le _,rfl,rfl,hJ (fun j hj=>absurd hj (Nat.not_lt_zero _)),X1.out⟩
  case round=>
   obtain⟨k,hk,rfl,rfl,HT,HS0⟩:=hrel
   have HS:=hJ HS0;clear HS0
   obtain⟨p0,p1,p2,p3,p4,p5,p6,p7,p8,zr⟩:=qhh HS.out
   by_cases hlt:k<b.marks.length
   ·obtain⟨bb,off,m,rfl,hb,c0,c1,HM⟩:=qfh (show Row wr Am (qao.cells b.marks) by rw[←HAm.out];exact(HR.out.ext HS.out).marks) hlt
    have HN:=hJ (qoW HM.out)
    have HOK:Hid (qbo b.st k=(decide (qqV b.marks k<m.1)&&(decide (m.1≠b.self)&&(qbr lxs m.1&&(decide (0≤m.2)&&decide (m.2≤b.log.length)))))):=hJ (by
     rw[qsR (s:=b.st) HM.out,qe2,HLV.out];rfl)
    have X3:=hJ (HS.out.alloc (.cells #[Jq m.1,Jq m.2] 123))
    have RV:=hJ ((HR.out.ext X3.out.drew).vs)
    have s0:(wr.alloc (.cells #[Jq m.1,Jq m.2] 123)).cell? (Pw w 0)=some (Jq b.self):=by simpa using X3.out.cell_new 0
    have s1:(wr.alloc (.cells #[Jq m.1,Jq m.2] 123)).cell? (Pw w 1)=some (.slice b.Av b.vs.length b.cv):=by simpa using X3.out.cell_new 1
    have s2:(wr.alloc (.cells #[Jq m.1,Jq m.2] 123)).cell? (Pw w 3)=some (.slice b.Al b.log.length b.cl):=by simpa using X3.out.cell_new 3
    have s3:(wr.alloc (.cells #[Jq m.1,Jq m.2] 123)).cell? (Pw wr 0)=some (Jq m.1):=by simp
    have s4:(wr.alloc (.cells #[Jq m.1,Jq m.2] 123)).cell? (Pw wr 1)=some (Jq m.2):=by simp
    generalize qqV b.marks k=bf at *
    by_cases h1:bf<m.1
    rotate_left
    ·have h1':decide (m.1≤bf)=true:=decide_eq_true (by omega)
     have H1:=hJ h1
     clear h1;go_wp2;go_quiet (fail)
     go_wp2;go_ret
     exact⟨qae (qnu hlt HE.out (by rw[HOK.out,decide_eq_false (Int.not_lt.2 H1.out)];rfl)),H0.out.trans (X3.out.drewN _)⟩
    have H1:=hJ h1
    have h1':decide (m.1≤bf)=false:=decide_eq_false (by omega)
    clear h1;by_cases h2:m.1=b.self
    ·have h2':(m.1 == b.self)=true:=by simp[h2]
     have H2:=hJ h2
     clear h2;go_wp2;go_quiet (fail)
     go_wp2;go_ret
     exact⟨qae (qnu hlt HE.out (by rw[HOK.out,decide_eq_false (p:=m.1≠b.self) (fun hh=>hh H2.out)];simp)),H0.out.trans (X3.out.drewN _)⟩
    have h2':(m.1 == b.self)=false:=beq_eq_false_iff_ne.2 h2
    have H2:=hJ h2
    clear h2;cases h3:qbr lxs m.1
    ·have HH:=hJ h3;clear h3
     go_wp2;refine wp_region_held_drew (S:=fun w'=>w'.cell? (Pw w 0)=some (Jq b.self)∧w'.cell? (Pw w 1)=some (.slice b.Av b.vs.length b.cv)∧w'.cell? (Pw w 3)=some (.slice b.Al b.log.length b.cl)∧w'.cell? (Pw wr 0)=some (Jq m.1)∧w'.cell? (Pw wr 1)=some (Jq m.2)) (by kernel_rfl) ⟨s0,s1,s2,s3,s4⟩ (fun hHeld=>?_)
     refine qaC 0 44 ?_
     refine qaC 1 45 ?_
     refine qaC 2 46 ?_
     refine qaC 3 47 ?_
     refine qaC 4 48 ?_
     refine qaC 5 49 ?_
     refine qaC 6 50 ?_
     refine qaC 7 51 ?_
     refine qaC 8 52 ?_
     refine qaC 9 53 ?_
     refine qaC 10 54 ?_
     refine qaC 11 55 ?_
     refine qaC 12 56 ?_
     refine qaC 13 57 ?_
     refine qaC 16 60 ?_
     refine qaC 17 61 ?_
     refine wpAnyH_ready (rs:=[14]) (by kernel_rfl) (by simp) ?_
     refine AllReadyH.cons (o:=⟨some 58,_,_,_,_,_⟩) rfl (fun K hK=>?_) AllReadyH.nil
     go_simp;go_at_call 49;refine(qdj b.Av b.cv b.vs _ RV.out hp hn ln lxs HL.out).mono ?_
     rintro e w4 ⟨A4,c4,rfl,_,_,HR4,hx4⟩
     have X4:=hJ ((X3.out.drew).trans hx4)
     have r0:w4.cell? (Pw w 0)=some (Jq b.self):=(by first|(simpa using X4.out.cell_new 0)|(rw[hx4.cell (by simp)];simp))
     have r1:w4.cell? (Pw w 1)=some (.slice b.Av b.vs.length b.cv):=(by first|(simpa using X4.out.cell_new 1)|(rw[hx4.cell (by simp)];simp))
     have r2:w4.cell? (Pw w 3)=some (.slice b.Al b.log.length b.cl):=(by first|(simpa using X4.out.cell_new 3)|(rw[hx4.cell (by simp)];simp))
     have r3:w4.cell? (Pw wr 0)=some (Jq m.1):=(by first|(simpa using X4.out.cell_new 0)|(rw[hx4.cell (by simp)];simp))
     have r4:w4.cell? (Pw wr 1)=some (Jq m.2):=(by first|(simpa using X4.out.cell_new 1)|(rw[hx4.cell (by simp)];simp))
     clear hHeld hx4;refine hK.out _ _ ⟨r0,r1,r2,r3,r4⟩ (fun hHeld=>?_)
     try simp only[Act.put,l1,l2,l3]
     refine qaC 15 59 ?_
     refine wpAnyH_ready (rs:=[18]) (by kernel_rfl) (by simp) ?_
     refine AllReadyH.cons (o:=⟨some 62,_,_,_,_,_⟩) rfl (fun K hK=>?_) AllReadyH.nil
     go_simp;go_at_call 85;refine(qa6 A4 c4 lxs m.1 _ HR4.out hxl _ HH.out).mono ?_
     rintro e w5 ⟨rfl,hw5⟩
     subst hw5
     clear hHeld;refine hK.out _ _ ⟨r0,r1,r2,r3,r4⟩ (fun hHeld=>?_)
     try simp only[Act.put,l1,l2,l3]
     refine qaC 19 63 ?_
     refine qaC 20 64 ?_
     refine qaC 21 65 ?_
     refine wpAnyH_take (i:=22) (oi:=⟨some 66,_,_,_,_,_⟩) (v:=undef) rfl (by kernel_rfl) (by kernel_rfl) (by kernel_rfl) (fun _ _ _ h=>h) (Or.inr ⟨by rfl,rfl⟩) (by assumption) ?_
     try simp only[Act.put,l1,l2,l3]
     refine wpAnyH_take (i:=23) (oi:=⟨some 67,_,_,_,_,_⟩) (v:=undef) rfl (by kernel_rfl) (by kernel_rfl) (by kernel_rfl) (fun _ _ _ h=>h) (Or.inr ⟨by rfl,rfl⟩) (by assumption) ?_
     try simp only[Act.put,l1,l2,l3]
     refine wpAnyH_take (i:=24) (oi:=⟨some 68,_,_,_,_,_⟩) (v:=undef) rfl (by kernel_rfl) (by kernel_rfl) (by kernel_rfl) (fun _ _ _ h=>h) (Or.inr ⟨by rfl,rfl⟩) (by assumption) ?_
     try simp only[Act.put,l1,l2,l3]
     refine qaC 25 69 ?_
     refine qaC 26 70 ?_
     refine wpAnyH_take (i:=27) (oi:=⟨some 71,_,_,_,_,_⟩) (v:=undef) rfl (by kernel_rfl) (by kernel_rfl) (by kernel_rfl) (fun _ _ _ h=>h) (Or.inr ⟨by rfl,rfl⟩) (by assumption) ?_
     try simp only[Act.put,l1,l2,l3]
     refine wpAnyH_take (i:=28) (oi:=⟨some 72,_,_,_,_,_⟩) (v:=undef) rfl (by kernel_rfl) (by kernel_rfl) (by kernel_rfl) (fun _ _ _ h=>h) (Or.inr ⟨by rfl,rfl⟩) (by assumption) ?_
     try simp only[Act.put,l1,l2,l3]
     refine wpAnyH_take (i:=29) (oi:=⟨some 73,_,_,_,_,_⟩) (v:=undef) rfl (by kernel_rfl) (by kernel_rfl) (by kernel_rfl) (fun _ _ _ h=>h) (Or.inr ⟨by rfl,rfl⟩) (by assumption) ?_
     try simp only[Act.put,l1,l2,l3]
     refine wpAnyH_take (i:=30) (oi:=⟨some 74,_,_,_,_,_⟩) (v:=undef) rfl (by kernel_rfl) (by kernel_rfl) (by kernel_rfl) (fun _ _ _ h=>h) (Or.inr ⟨by rfl,rfl⟩) (by assumption) ?_
     try simp only[Act.put,l1,l2,l3]
     refine wpAnyH_take (i:=31) (oi:=⟨some 75,_,_,_,_,_⟩) (v:=undef) rfl (by kernel_rfl) (by kernel_rfl) (by kernel_rfl) (fun _ _ _ h=>h) (Or.inr ⟨by rfl,rfl⟩) (by assumption) ?_
     try simp only[Act.put,l1,l2,l3]
     refine wpAnyH_take (i:=32) (oi:=⟨some 76,_,_,_,_,_⟩) (v:=undef) rfl (by kernel_rfl) (by kernel_rfl) (by kernel_rfl) (fun _ _ _ h=>h) (Or.inr ⟨by rfl,rfl⟩) (by assumption) ?_
     try simp only[Act.put,l1,l2,l3]
     refine qaC 33 77 ?_
     refine wpAnyH_done (by kernel_rfl) ?_ _
     go_wp2;go_ret
     exact⟨qae (qnu hlt HE.out (by rw[HOK.out,HH.out];simp)),H0.out.trans X4.out⟩
    have HH:=hJ h3;clear h3
    by_cases h4:m.2<0
    ·have h4':decide (m.2<0)=true:=decide_eq_true h4
     have H4:=hJ h4
     clear h4;go_wp2;refine wp_region_held_drew (S:=fun w'=>w'.cell? (Pw w 0)=some (Jq b.self)∧w'.cell? (Pw w 1)=some (.slice b.Av b.vs.length b.cv)∧w'.cell? (Pw w 3)=some (.slice b.Al b.log.length b.cl)∧w'.cell? (Pw wr 0)=some (Jq m.1)∧w'.cell? (Pw wr 1)=some (Jq m.2)) (by kernel_rfl) ⟨s0,s1,s2,s3,s4⟩ (fun hHeld=>?_)
     refine qaC 0 44 ?_
     refine qaC 1 45 ?_
     refine qaC 2 46 ?_
     refine qaC 3 47 ?_
     refine qaC 4 48 ?_
     refine qaC 5 49 ?_
     refine qaC 6 50 ?_
     refine qaC 7 51 ?_
     refine qaC 8 52 ?_
     refine qaC 9 53 ?_
     refine qaC 10 54 ?_
     refine qaC 11 55 ?_
     refine qaC 12 56 ?_
     refine qaC 13 57 ?_
     refine qaC 16 60 ?_
     refine qaC 17 61 ?_
     refine wpAnyH_ready (rs:=[14]) (by kernel_rfl) (by simp) ?_
     refine AllReadyH.cons (o:=⟨some 58,_,_,_,_,_⟩) rfl (fun K hK=>?_) AllReadyH.nil
     go_simp;go_at_call 49;refine(qdj b.Av b.cv b.vs _ RV.out hp hn ln lxs HL.out).mono ?_
     rintro e w4 ⟨A4,c4,rfl,_,_,HR4,hx4⟩
     have X4:=hJ ((X3.out.drew).trans hx4)
     have r0:w4.cell? (Pw w 0)=some (Jq b.self):=(by first|(simpa using X4.out.cell_new 0)|(rw[hx4.cell (by simp)];simp))
     have r1:w4.cell? (Pw w 1)=some (.slice b.Av b.vs.length b.cv):=(by first|(simpa using X4.out.cell_new 1)|(rw[hx4.cell (by simp)];simp))
     have r2:w4.cell? (Pw w 3)=some (.slice b.Al b.log.length b.cl):=(by first|(simpa using X4.out.cell_new 3)|(rw[hx4.cell (by simp)];simp))
     have r3:w4.cell? (Pw wr 0)=some (Jq m.1):=(by first|(simpa using X4.out.cell_new 0)|(rw[hx4.cell (by simp)];simp))
     have r4:w4.cell? (Pw wr 1)=some (Jq m.2):=(by first|(simpa using X4.out.cell_new 1)|(rw[hx4.cell (by simp)];simp))
     clear hHeld hx4;refine hK.out _ _ ⟨r0,r1,r2,r3,r4⟩ (fun hHeld=>?_)
     try simp only[Act.put,l1,l2,l3]
     refine qaC 15 59 ?_
     refine wpAnyH_ready (rs:=[18]) (by kernel_rfl) (by simp) ?_
     refine AllReadyH.cons (o:=⟨some 62,_,_,_,_,_⟩) rfl (fun K hK=>?_) AllReadyH.nil
     go_simp;go_at_call 85;refine(qa6 A4 c4 lxs m.1 _ HR4.out hxl _ HH.out).mono ?_
     rintro e w5 ⟨rfl,hw5⟩
     subst hw5
     clear hHeld;refine hK.out _ _ ⟨r0,r1,r2,r3,r4⟩ (fun hHeld=>?_)
     try simp only[Act.put,l1,l2,l3]
     refine qaC 19 63 ?_
     refine qaC 20 64 ?_
     refine qaC 21 65 ?_
     refine qaC 22 66 ?_
     refine qaC 23 67 ?_
     refine qaC 24 68 ?_
     refine qaC 25 69 ?_
     refine qaC 26 70 ?_
     refine wpAnyH_take (i:=27) (oi:=⟨some 71,_,_,_,_,_⟩) (v:=undef) rfl (by kernel_rfl) (by kernel_rfl) (by kernel_rfl) (fun _ _ _ h=>h) (Or.inr ⟨by rfl,rfl⟩) (by assumption) ?_
     try simp only[Act.put,l1,l2,l3]
     refine wpAnyH_take (i:=28) (oi:=⟨some 72,_,_,_,_,_⟩) (v:=undef) rfl (by kernel_rfl) (by kernel_rfl) (by kernel_rfl) (fun _ _ _ h=>h) (Or.inr ⟨by rfl,rfl⟩) (by assumption) ?_
     try simp only[Act.put,l1,l2,l3]
     refine wpAnyH_take (i:=29) (oi:=⟨some 73,_,_,_,_,_⟩) (v:=undef) rfl (by kernel_rfl) (by kernel_rfl) (by kernel_rfl) (fun _ _ _ h=>h) (Or.inr ⟨by rfl,rfl⟩) (by assumption) ?_
     try simp only[Act.put,l1,l2,l3]
     refine wpAnyH_take (i:=30) (oi:=⟨some 74,_,_,_,_,_⟩) (v:=undef) rfl (by kernel_rfl) (by kernel_rfl) (by kernel_rfl) (fun _ _ _ h=>h) (Or.inr ⟨by rfl,rfl⟩) (by assumption) ?_
     try simp only[Act.put,l1,l2,l3]
     refine wpAnyH_take (i:=31) (oi:=⟨some 75,_,_,_,_,_⟩) (v:=undef) rfl (by kernel_rfl) (by kernel_rfl) (by kernel_rfl) (fun _ _ _ h=>h) (Or.inr ⟨by rfl,rfl⟩) (by assumption) ?_
     try simp only[Act.put,l1,l2,l3]
     refine wpAnyH_take (i:=32) (oi:=⟨some 76,_,_,_,_,_⟩) (v:=undef) rfl (by kernel_rfl) (by kernel_rfl) (by kernel_rfl) (fun _ _ _ h=>h) (Or.inr ⟨by rfl,rfl⟩) (by assumption) ?_
     try simp only[Act.put,l1,l2,l3]
     refine qaC 33 77 ?_
     refine wpAnyH_done (by kernel_rfl) ?_ _
     go_wp2;go_ret
     exact⟨qae (qnu hlt HE.out (by rw[HOK.out,decide_eq_false (p:=0≤m.2) (by have:=H4.out;omega)];simp)),H0.out.trans X4.out⟩
    have h4':decide (m.2<0)=false:=decide_eq_false h4
    have H4:=hJ h4
    clear h4;by_cases h5:(b.log.length:Int)<m.2
    ·have h5':decide ((b.log.length:Int)<m.2)=true:=decide_eq_true h5
     have H5:=hJ h5
     clear h5;go_wp2;go_region_held3 (fun w'=>w'.cell? (Pw w 0)=some (Jq b.self)∧w'.cell? (Pw w 1)=some (.slice b.Av b.vs.length b.cv)∧w'.cell? (Pw w 3)=some (.slice b.Al b.log.length b.cl)∧w'.cell? (Pw wr 0)=some (Jq m.1)∧w'.cell? (Pw wr 1)=some (Jq m.2))
      (first|exact⟨s0,s1,s2,s3,s4⟩|exact⟨r0,r1,r2,r3,r4⟩)
      (first
       | (go_at_call 49;(with_reducible refine(qdj b.Av b.cv b.vs _ (by exact RV.out) hp hn ln lxs (by exact HL.out)).mono ?_);rintro e w4 ⟨A4,c4,rfl,_,_,HR4,hx4⟩;have X4:=hJ (Ext.trans (X3.out.drew) hx4);have r0:w4.cell? ⟨w.heap.size,0,none⟩=some (.int .i64 b.self):=(by first|(simpa using X4.out.cell_new 0)|(rw[hx4.cell (by simp)];simp));have r1:w4.cell? ⟨w.heap.size,1,none⟩=some (.slice b.Av b.vs.length b.cv):=(by first|(simpa using X4.out.cell_new 1)|(rw[hx4.cell (by simp)];simp));have r2:w4.cell? ⟨w.heap.size,3,none⟩=some (.slice b.Al b.log.length b.cl):=(by first|(simpa using X4.out.cell_new 3)|(rw[hx4.cell (by simp)];simp));have r3:w4.cell? ⟨wr.heap.size,0,none⟩=some (.int .i64 m.1):=(by first|(simpa using X4.out.cell_new 0)|(rw[hx4.cell (by simp)];simp));have r4:w4.cell? ⟨wr.heap.size,1,none⟩=some (.int .i64 m.2):=(by first|(simpa using X4.out.cell_new 1)|(rw[hx4.cell (by simp)];simp));clear hx4)
       | (go_at_call 85;(with_reducible refine(qa6 A4 c4 lxs m.1 _ (by exact HR4.out) hxl _ (by exact HH.out)).mono ?_);rintro e w5 ⟨rfl,rfl⟩))
     go_wp2;go_ret
     exact⟨qae (qnu hlt HE.out (by rw[HOK.out,decide_eq_false (p:=m.2≤(b.log.length:Int)) (by have:=H5.out;omega)];simp)),H0.out.trans X4.out⟩
    ·have h5':decide ((b.log.length:Int)<m.2)=false:=decide_eq_false h5
     have H5:=hJ h5
     clear h5;go_wp2;go_region_held3 (fun w'=>w'.cell? (Pw w 0)=some (Jq b.self)∧w'.cell? (Pw w 1)=some (.slice b.Av b.vs.length b.cv)∧w'.cell? (Pw w 3)=some (.slice b.Al b.log.length b.cl)∧w'.cell? (Pw wr 0)=some (Jq m.1)∧w'.cell? (Pw wr 1)=some (Jq m.2))
      (first|exact⟨s0,s1,s2,s3,s4⟩|exact⟨r0,r1,r2,r3,r4⟩)
      (first
       | (go_at_call 49;(with_reducible refine(qdj b.Av b.cv b.vs _ (by exact RV.out) hp hn ln lxs (by exact HL.out)).mono ?_);rintro e w4 ⟨A4,c4,rfl,_,_,HR4,hx4⟩;have X4:=hJ (Ext.trans (X3.out.drew) hx4);have r0:w4.cell? ⟨w.heap.size,0,none⟩=some (.int .i64 b.self):=(by first|(simpa using X4.out.cell_new 0)|(rw[hx4.cell (by simp)];simp));have r1:w4.cell? ⟨w.heap.size,1,none⟩=some (.slice b.Av b.vs.length b.cv):=(by first|(simpa using X4.out.cell_new 1)|(rw[hx4.cell (by simp)];simp));have r2:w4.cell? ⟨w.heap.size,3,none⟩=some (.slice b.Al b.log.length b.cl):=(by first|(simpa using X4.out.cell_new 3)|(rw[hx4.cell (by simp)];simp));have r3:w4.cell? ⟨wr.heap.size,0,none⟩=some (.int .i64 m.1):=(by first|(simpa using X4.out.cell_new 0)|(rw[hx4.cell (by simp)];simp));have r4:w4.cell? ⟨wr.heap.size,1,none⟩=some (.int .i64 m.2):=(by first|(simpa using X4.out.cell_new 1)|(rw[hx4.cell (by simp)];simp));clear hx4)
       | (go_at_call 85;(with_reducible refine(qa6 A4 c4 lxs m.1 _ (by exact HR4.out) hxl _ (by exact HH.out)).mono ?_);rintro e w5 ⟨rfl,rfl⟩))
     go_wp2;go_roundw
     case rel=>exact⟨k+1,by omega,by go_num,by rw[HN.out],hJ (qk5 HT.out (by rw[HOK.out,decide_eq_true H1.out,decide_eq_true (p:=m.1≠b.self) H2.out,HH.out,decide_eq_true (p:=0≤m.2) (by have:=H4.out;omega),decide_eq_true (p:=m.2≤(b.log.length:Int)) (by have:=H5.out;omega)];rfl)),X4.out⟩
     case measure=>simp[intOf]<;>omega
   ·have HMK:=hJ (qnr (n:=b.st.marks.length) (p:=qbo b.st) (fun j hj=>HT.out j (by have:b.st.marks.length=b.marks.length:=rfl;omega)))
    obtain⟨wo,rfl⟩:∃x,x=wr:=⟨wr,rfl⟩
    go_wp2;go_loopw [3,84] (fun bf i wr=>∃k:Nat,k≤b.fls.length∧i=Jq k∧bf=Jq (qqv b.st.fls k)∧Hid (∀j,j<k→qdm b.st j=true)∧Ext (w.alloc (.cells (b.cells2 Am Af) 28)) wr) (fun _ i _=>b.fls.length - (intOf i).toNat)
    case atStart=>exact⟨0,Nat.zero_le _,rfl,rfl,hJ (fun j hj=>absurd hj (Nat.not_lt_zero _)),HS.out⟩
    case round=>
     obtain⟨k2,hk2,rfl,rfl,HT2,HS2⟩:=hrel
     have HQ:=hJ HS2;clear HS2
     obtain⟨t0,t1,t2,t3,t4,t5,t6,t7,t8,zt⟩:=qhh HQ.out
     have hfz:b.st.fls.length=b.fls.length:=by show (b.fls.map FlM.v).length=_;rw[List.length_map]
     by_cases hlt2:k2<b.fls.length
     ·obtain⟨bb,off,f,rfl,hb,c0,c1,c2,HFR,HF⟩:=qgC (show flE.Box wr Af b.fls by rw[←HAf.out];exact(HR.out.ext HQ.out).fls) hlt2
      have hst:b.st.fls[k2]?=some f.v:=by show (b.fls.map FlM.v)[k2]?=_;rw[List.getElem?_map,HF.out];rfl
      have HN:=hJ (qm9 hst)
      have HOK:Hid (qdm b.st k2=(decide (qqv b.st.fls k2<f.m)&&(qb2 f.m&&qbL (vws b.vs) f.v))):=hJ (by rw[qsJ hst];rfl)
      have hff:=HFT.out.fl f (List.mem_of_getElem? HF.out)
      have hfg:f.log.length≤1000000000:=by have:=hff.1;omega
      have HFP:=hJ hff.2
      clear hst hff;have X3:=hJ (Ext.new wr (.cells #[Jq f.m,Jq f.b,.slice f.A f.log.length f.c] 80))
      generalize qqv b.st.fls k2=bf at *
      by_cases h1:bf<f.m
      rotate_left
      ·have h1':decide (f.m≤bf)=true:=decide_eq_true (by omega)
       have H1:=hJ h1
       clear h1;go_wp2;go_ret
       exact⟨qae (qrB hlt2 HE.out HMK.out (by rw[HOK.out,decide_eq_false (Int.not_lt.2 H1.out)];rfl)),H0.out.trans (HQ.out.trans X3.out)⟩
      have H1:=hJ h1
      have h1':decide (f.m≤bf)=false:=decide_eq_false (by omega)
      clear h1;go_wp2_with fail
      refine(qcm f.m _).mono ?_
      cases hid:qb2 f.m
      ·have HD:=hJ hid;clear hid
       rintro r w4 ⟨rfl,rfl⟩
       go_wp2;go_ret
       exact⟨qae (qrB hlt2 HE.out HMK.out (by rw[HOK.out,HD.out];simp)),H0.out.trans (HQ.out.trans X3.out)⟩
      have HD:=hJ hid;clear hid
      rintro r w4 ⟨rfl,rfl⟩
      go_wp2_with fail
      refine(qgb b.Av b.cv b.vs f _ (HR.out.ext (HQ.out.trans X3.out)).vs (HFR.out.ext X3.out) hn HFT.out.vx hfg HFP.out).mono ?_
      cases hps:qbL (vws b.vs) f.v
      ·have HP:=hJ hps;clear hps
       rintro r w5 ⟨rfl,hx5⟩
       have X5:=hJ (HQ.out.trans (X3.out.trans hx5));clear hx5
       go_wp2;go_ret
       exact⟨qae (qrB hlt2 HE.out HMK.out (by rw[HOK.out,HP.out];simp)),H0.out.trans X5.out⟩
      ·have HP:=hJ hps;clear hps
       rintro r w5 ⟨rfl,hx5⟩
       have X5:=hJ (HQ.out.trans (X3.out.trans hx5))
       have u0:w5.cell? (Pw wr 0)=some (Jq f.m):=by rw[hx5.cell (by simp)];simp
       clear hx5;go_wp2;go_roundw
       case rel=>exact⟨k2+1,by omega,by go_num,by rw[HN.out];rfl,hJ (qk5 HT2.out (by rw[HOK.out,decide_eq_true H1.out,HD.out,HP.out];rfl)),X5.out⟩
       case measure=>simp[intOf]<;>omega
     ·go_wp2
      go_ret
      exact⟨qae (qtK HE.out HMK.out (fun j hj=>HT2.out j (by omega))),H0.out.trans HQ.out⟩
theorem qhx(b:BM)(w:World)(h:b.Reads w)(hp:0<b.vs.length)(hf:b.Fits) :
  Calls Tryz.prog 92 #[.agg b.cells] w fun e w'=>e=.returned (.bool (qca b.st))∧Ext w w':=qhy b b.Am b.Af w rfl rfl h hp hf
def qek(l p:List Ent):Bool:=decide (p.length≤l.length)&&qes (l.take p.length) p
theorem Row.take_ents{w:World}{A:Option Addr}{l:List Ent}(h:Row w A (qaz.cells l))(n:Nat):Row w A (qaz.cells (l.take n)):=by
 intro hne
 have hl:qaz.cells l=qaz.cells (l.take n)++qaz.cells (l.drop n):=by rw[←qaz.cells_append,List.take_append_drop]
 obtain⟨b,off,h1,h2,h3⟩:=h (by rw[hl];simp[hne])
 refine⟨b,off,h1,h2,fun j u hj=>h3 j u ?_⟩
 rw[hl,List.getElem?_append_left (List.getElem?_eq_some_iff.1 hj).1];exact hj
theorem qo0(A A':Option Addr)(n c c':Nat)(xs ys:List Ent)(w:World)(hl:n=xs.length)(h:Row w A (qaz.cells xs))(h':Row w A' (qaz.cells ys))(hn:xs.length≤1000000000) :
  Calls Tryz.prog 179 #[.slice A n c,.slice A' ys.length c'] w fun e w'=>e=.returned (.bool (qes xs ys))∧Still w w':=by
 subst hl;exact qhC A A' c c' xs ys w h h' hn
theorem qlI(A A':Option Addr)(c c':Nat)(l p:List Ent)(w:World)(h:Row w A (qaz.cells l))(h':Row w A' (qaz.cells p))(hn:l.length≤1000000000)(hc:l.length≤c) :
  Calls Tryz.prog 130 #[.slice A l.length c,.slice A' p.length c'] w fun e w'=>e=.returned (.bool (qek l p))∧Ext w w':=by
 have H:=hJ (h.take_ents p.length);have H':=hJ h';clear h h'
 by_cases hle:p.length≤l.length
 ·have HL:=hJ hle
  have hle1:decide ((p.length:Int)≤(l.length:Int))=true:=decide_eq_true (by omega)
  have k1:(0:Int)≤(p.length:Int):=by omega
  have k2:(p.length:Int)≤(c:Int):=by omega
  have k3:p.length≤c:=by omega
  have hlt:(l.take p.length).length=p.length:=by rw[List.length_take];omega
  have HT:=hJ hlt
  clear hle hlt;go_enter Tryz.func130,Tryz.ntmps130
  go_wp2_with fail
  refine(qo0 A A' p.length c c' (l.take p.length) p _ HT.out.symm H.out H'.out (by rw[HT.out];omega)).mono ?_
  rintro e w1 ⟨rfl,hs1⟩
  have X1:=hJ hs1.ext
  clear hs1;go_wp2;go_ret
  exact⟨qae (by rw[qek,decide_eq_true HL.out];rfl),X1.out⟩
 ·have HL:=hJ hle
  have hle1:decide ((p.length:Int)≤(l.length:Int))=false:=decide_eq_false (by omega)
  clear hle;go_enter Tryz.func130,Tryz.ntmps130
  go_wp2;go_ret
  exact⟨qae (by rw[qek,decide_eq_false HL.out];rfl),Ext.refl _⟩
end Go.Proofs.YtponbabbabnaeaaGreat
