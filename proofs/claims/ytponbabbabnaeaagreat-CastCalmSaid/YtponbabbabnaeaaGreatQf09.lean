/- Part 9 of the proof: contracts of functions that the statement reaches. Conditions: as each theorem says. -/
import Derived.Test.YtponbabbabnaeaaGreatQf01
import Derived.Test.YtponbabbabnaeaaGreatQf08
set_option maxRecDepth 100000
set_option maxHeartbeats 40000000
namespace Go.Proofs.YtponbabbabnaeaaGreat
open Go.RowKit
theorem qso {P : Prop} (h : P := by
 have hjn:j=qbV S0:=by have:=HTN.out;omega
 subst hjn;go_wp2;go_end0;first|exact⟨A,c,rfl,HBr.out,HOr.out,HCr.out,HSr.out⟩|exact⟨rfl,A,c,HBr.out,HOr.out,HCr.out,HSr.out⟩) : P := h
theorem qcR(s:St)(j:Nat):(qbc s j).length=s.log.length+j:=by unfold qbc;simp
theorem qnm(s:St)(j:Nat):qbc s (j+1)=qbc s j++[⟨s.base,s.self,qar s.log s.self+1+j,qcg s (qar s.log s.self+1+j)⟩]:=by
 unfold qbc;rw[List.range_succ,List.map_append,List.append_assoc];rfl
theorem qpo(b:BM)(ex:Array Value)(A:Option Addr)(c:Nat)(l:List Ent):(b.cells++ex).setIfInBounds 3 (.slice A l.length c)=({b with Al:=A,cl:=c,log:=l}:BM).cells++ex:=by
 apply Array.ext';simp
theorem BIs.app{w:World}{p:Nat}{b:BM}{ex:Array Value}{t:TypeId}(h:BIs w p (b.cells++ex) t)(i:Nat)(hi:i<9):w.cell? (Pq p i)=b.cells[i]?:=by
 rw[h.cell,Array.getElem?_append_left (by simpa using hi)]
theorem qme(b:BM)(ex:Array Value)(t:TypeId)(p B:Nat)(col:Nat→Nat)(w:World)(hb:BIs w p (b.cells++ex) t)(hpc:col p=1)(hbp:B≤p)(hl:b.Lies w B col)(hf:b.Fits)
  (ho:(qar b.log b.self:Int)≤b.sent) (hs:b.sent≤1099511627776) (hpd:b.sent - qar b.log b.self≤b.pend.length) (hlg:b.log.length≤2000) :
  Calls Tryz.prog 42 #[.pointer (some (Pq p 0))] w fun en w'=>∃A c,en=.returned (.tuple #[])∧BIs w' p (({b with Al:=A,cl:=c,log:=qbc b.st (qbV b.st)}:BM).cells++ex) t∧
   qaH.Own w' B (.slice A (qbc b.st (qbV b.st)).length c) (qbc b.st (qbV b.st))∧ColV (qai col w.heap.size 2) 2 (.slice A (qbc b.st (qbV b.st)).length c)∧Stp B [1,2] col w (qai col w.heap.size 2) w':=by
 obtain⟨S0,hS0⟩:∃s,s=b.st:=⟨_,rfl⟩;rw[←hS0];have hSl:S0.log=b.log:=by rw[hS0];rfl
 have hSn:S0.sent=b.sent:=by rw[hS0];rfl
 have hSf:S0.self=b.self:=by rw[hS0];rfl
 have hSb:S0.base=b.base:=by rw[hS0];rfl
 have hSp:S0.pend=b.pend:=by rw[hS0];rfl
 have hpn:=hf.pend;have q0:=hb.app 0 (by decide);have q3:=hb.app 3 (by decide);have hpl:p<w.heap.size:=hb.lt;have HBX:=hJ hb;have HL:=hJ hl;clear hb hl hf hS0;obtain⟨self,base,stable,sent,Av,cv,vs,Al,cl,log,Ap,cp,pend,Am,cm,marks,Af,cf,fls⟩:=b;simp only at ho hs hpd hlg hSl hSn hSf hSb hSp hpn;have HSL:=hJ hSl;have HSN:=hJ hSn;have HSF:=hJ hSf;have HSB:=hJ hSb;have HSP:=hJ hSp;replace q0:w.cell? (Pq p 0)=some (Jq self):=q0;replace q3:w.cell? (Pq p 3)=some (.slice Al log.length cl):=q3;clear hSl hSn hSf hSb hSp;have hwo:IntKind.i64.wrap ((qar log self:Int)+1)=(qar log self:Int)+1:=IntWalk.i64_in _ (by omega);go_enter Tryz.func42,Tryz.ntmps42;go_wp2;refine E_g 11 (fun w'=>w'.cell? (Pq p 0)=some (Jq self)∧w'.cell? (Pq p 3)=some (.slice Al log.length cl)) ⟨by simpa using q0,by simpa using q3⟩ (fun yH=>?_);refine E_t4 0 3 ?_;refine E_t4 4 7 ?_;refine E_r 8 (some 11) fun K hK=>?_;go_simp;go_at_call 91;refine(qcD Al cl log self _ (HL.out.log.row.ext zW) (by omega)).mono ?_;rintro en w1 ⟨rfl,hx1⟩;have X1:Hid (Ext w w1):=hJ (zW.trans hx1);clear hx1;have k0:w1.cell? (Pq p 0)=some (Jq self):=by rw[X1.out.cell (by exact hpl)];exact q0
 have k3:w1.cell? (Pq p 3)=some (.slice Al log.length cl):=by rw[X1.out.cell (by exact hpl)];exact q3
 clear yH;refine hK.out _ _ ⟨k0,k3⟩ (fun yH=>?_);clear hK K;try simp only[Act.put,aP1,aP2,aP3]
 refine E_t 9 12 ?_;refine E_t 10 2 ?_;refine E_e ?_;go_wp2;clear yH k0 k3 q0 q3 hwo;go_loopw [2] (fun sq wr=>∃(j:Nat) (A:Option Addr) (c:Nat),sq=Jq ((qar log self:Int)+1+(j:Int))∧j≤qbV S0∧Hid (BIs wr p ((⟨self,base,stable,sent,Av,cv,vs,A,c,qbc S0 j,Ap,cp,pend,Am,cm,marks,Af,cf,fls⟩:BM).cells++ex) t)∧
   Hid (qaH.Own wr B (.slice A (qbc S0 j).length c) (qbc S0 j))∧Hid (ColV (qai col w.heap.size 2) 2 (.slice A (qbc S0 j).length c))∧Hid (Stp B [1,2] col w (qai col w.heap.size 2) wr)) (fun sq _=>(sent+1 - intOf sq).toNat)
 case atStart=>
  have hT0:qbc S0 0=log:=by unfold qbc;rw[HSL.out];simp
  have hst:Stp B [1,2] col w (qai col w.heap.size 2) w1:=Stp.ext (by omega) X1.out (fun k hk=>qah hk);refine⟨0,Al,cl,by simp,zO _,hJ ?_,hJ ?_,hJ ?_,hJ hst⟩
  ·rw[hT0];exact HBX.out.ext X1.out
  ·rw[hT0];exact HL.out.log.ext X1.out
  ·rw[hT0];exact hst.colV HL.out.log HL.out.lc
 case round=>
  obtain⟨j,A,c,rfl,hj,HBr,HOr,HCr,HSr⟩:=hrel;have HTL:Hid ((qbc S0 j).length=log.length+j):=hJ (by rw[qcR,HSL.out]);have HTN:Hid (qbV S0=min (sent - qar log self).toNat (2000 - log.length)):=hJ (by unfold qbV;rw[HSL.out,HSN.out,HSF.out]);have q0:wr.cell? (Pq p 0)=some (Jq self):=HBr.out.app 0 (by decide);have q1:wr.cell? (Pq p 1)=some (.slice Av vs.length cv):=HBr.out.app 1 (by decide);have q2:wr.cell? (Pq p 2)=some (Jq base):=HBr.out.app 2 (by decide);have q3:wr.cell? (Pq p 3)=some (.slice A (qbc S0 j).length c):=HBr.out.app 3 (by decide);have q4:wr.cell? (Pq p 4)=some (Jq stable):=HBr.out.app 4 (by decide);have q5:wr.cell? (Pq p 5)=some (Jq sent):=HBr.out.app 5 (by decide);have q6:wr.cell? (Pq p 6)=some (.slice Ap pend.length cp):=HBr.out.app 6 (by decide);have q7:wr.cell? (Pq p 7)=some (.slice Am marks.length cm):=HBr.out.app 7 (by decide);have q8:wr.cell? (Pq p 8)=some (.slice Af fls.length cf):=HBr.out.app 8 (by decide);have hpr:p<wr.heap.size:=HBr.out.lt;have hjs:(j:Int)≤sent - qar log self:=by have:=HTN.out;omega
  by_cases hc1:(qar log self:Int)+1+(j:Int)≤sent
  ·by_cases hc2:log.length+j<2000
   ·have hd1:decide ((qar log self:Int)+1+(j:Int)≤sent)=true:=by simpa using hc1
    have hd2:decide (((qbc S0 j).length:Int)<2000)=true:=by have:=HTL.out;simp;omega
    have hBr:Hid (B≤wr.heap.size):=hJ (by omega);have hpcr:Hid (qai col w.heap.size 2 p=1):=hJ (by rw[qah hpl];exact hpc);have HLr:Hid ((⟨self,base,stable,sent,Av,cv,vs,A,c,qbc S0 j,Ap,cp,pend,Am,cm,marks,Af,cf,fls⟩:BM).Lies wr B (qai col w.heap.size 2)):=hJ (HL.out.relog HSr.out (by simp) (by simp) (by simp) (by simp) HOr.out HCr.out);obtain⟨ix,hix⟩:∃ix:Nat,(pend.length:Int) - 1 - (sent - ((qar log self:Int)+1+(j:Int)))=(ix:Int):=⟨((pend.length:Int) - 1 - (sent - ((qar log self:Int)+1+(j:Int)))).toNat,by omega⟩;obtain⟨pl,hpl2⟩:∃pl,pend[ix]?=some pl:=⟨_,zY (by omega)⟩;have HPL:=hJ hpl2;have HNX:Hid (qbc S0 (j+1)=qbc S0 j++[⟨base,self,(qar log self:Int)+1+(j:Int),pl⟩]):=hJ (by
     rw[qnm,HSB.out,HSF.out,HSL.out];congr 3;unfold qcg;rw[HSP.out,HSN.out,hix];simp[HPL.out])
    have hws:IntKind.i64.wrap ((qar log self:Int)+1+(j:Int)+1)=(qar log self:Int)+1+(j:Int)+1:=IntWalk.i64_in _ (by omega);have fz3:=HBr.out.free 3;clear hpl2;go_wp2;refine E_g 22 (fun w'=>w'.cell? (Pq p 0)=some (Jq self)∧w'.cell? (Pq p 1)=some (.slice Av vs.length cv)∧w'.cell? (Pq p 2)=some (Jq base)∧w'.cell? (Pq p 3)=some (.slice A (qbc S0 j).length c)∧w'.cell? (Pq p 4)=some (Jq stable)∧w'.cell? (Pq p 5)=some (Jq sent)∧w'.cell? (Pq p 6)=some (.slice Ap pend.length cp)∧w'.cell? (Pq p 7)=some (.slice Am marks.length cm)∧w'.cell? (Pq p 8)=some (.slice Af fls.length cf)) ⟨by simpa using q0,by simpa using q1,by simpa using q2,by simpa using q3,by simpa using q4,by simpa using q5,by simpa using q6,by simpa using q7,by simpa using q8⟩ (fun yH=>?_);refine E_t4 0 29 ?_;refine E_t4 4 33 ?_;refine E_t4 8 37 ?_;refine E_t4 12 41 ?_;refine E_t2 16 45 ?_;refine E_r 18 (some 47) fun K hK=>?_;go_simp;go_at_call 112;refine(qif ⟨self,base,stable,sent,Av,cv,vs,A,c,qbc S0 j,Ap,cp,pend,Am,cm,marks,Af,cf,fls⟩ stable Ap ((qar log self:Int)+1+(j:Int)) ix pl _ rfl (HLr.out.reads.ext zW) (by simp only;omega) ⟨by simp only;omega,by simp only;omega⟩ ⟨by omega,by omega⟩ (by simp only;omega) (by exact HPL.out)).mono ?_;rintro en w1 ⟨rfl,hx1⟩;have X1:Hid (Ext wr w1):=hJ (zW.trans hx1);clear hx1;have r0:w1.cell? (Pq p 0)=some (Jq self):=by rw[X1.out.cell (by exact hpr)];exact q0
    have r1:w1.cell? (Pq p 1)=some (.slice Av vs.length cv):=by rw[X1.out.cell (by exact hpr)];exact q1
    have r2:w1.cell? (Pq p 2)=some (Jq base):=by rw[X1.out.cell (by exact hpr)];exact q2
    have r3:w1.cell? (Pq p 3)=some (.slice A (qbc S0 j).length c):=by rw[X1.out.cell (by exact hpr)];exact q3
    have r4:w1.cell? (Pq p 4)=some (Jq stable):=by rw[X1.out.cell (by exact hpr)];exact q4
    have r5:w1.cell? (Pq p 5)=some (Jq sent):=by rw[X1.out.cell (by exact hpr)];exact q5
    have r6:w1.cell? (Pq p 6)=some (.slice Ap pend.length cp):=by rw[X1.out.cell (by exact hpr)];exact q6
    have r7:w1.cell? (Pq p 7)=some (.slice Am marks.length cm):=by rw[X1.out.cell (by exact hpr)];exact q7
    have r8:w1.cell? (Pq p 8)=some (.slice Af fls.length cf):=by rw[X1.out.cell (by exact hpr)];exact q8
    clear yH;refine hK.out _ _ ⟨r0,r1,r2,r3,r4,r5,r6,r7,r8⟩ (fun yH=>?_);clear hK K;try simp only[Act.put,aP1,aP2,aP3]
    refine E_t 19 48 ?_;refine E_r 20 (some 49) fun K hK=>?_;go_simp;generalize hQ:w1.alloc (.cells #[Jq base,Jq self,Jq ((qar log self:Int)+1+(j:Int)),.string (qaF pl)] 66)=w2 at *;have X2:Hid (Ext wr w2):=(by subst hQ;exact hJ (X1.out.trans (Ext.new _ _)));have HRE:Hid (Row w2 (some (Pw w1 0)) (qaH.cells [⟨base,self,(qar log self:Int)+1+(j:Int),pl⟩])):=(by subst hQ;exact hJ (qdL ⟨base,self,(qar log self:Int)+1+(j:Int),pl⟩ w1));clear hQ;have s0:w2.cell? (Pq p 0)=some (Jq self):=by rw[X2.out.cell (by exact hpr)];exact q0
    have s1:w2.cell? (Pq p 1)=some (.slice Av vs.length cv):=by rw[X2.out.cell (by exact hpr)];exact q1
    have s2:w2.cell? (Pq p 2)=some (Jq base):=by rw[X2.out.cell (by exact hpr)];exact q2
    have s3:w2.cell? (Pq p 3)=some (.slice A (qbc S0 j).length c):=by rw[X2.out.cell (by exact hpr)];exact q3
    have s4:w2.cell? (Pq p 4)=some (Jq stable):=by rw[X2.out.cell (by exact hpr)];exact q4
    have s5:w2.cell? (Pq p 5)=some (Jq sent):=by rw[X2.out.cell (by exact hpr)];exact q5
    have s6:w2.cell? (Pq p 6)=some (.slice Ap pend.length cp):=by rw[X2.out.cell (by exact hpr)];exact q6
    have s7:w2.cell? (Pq p 7)=some (.slice Am marks.length cm):=by rw[X2.out.cell (by exact hpr)];exact q7
    have s8:w2.cell? (Pq p 8)=some (.slice Af fls.length cf):=by rw[X2.out.cell (by exact hpr)];exact q8
    clear yH;refine hK.out _ _ ⟨s0,s1,s2,s3,s4,s5,s6,s7,s8⟩ (fun yH=>?_);clear hK K;try simp only[Act.put,aP1,aP2,aP3]
    refine E_r 21 (some 50) fun K hK=>?_;refine qbT qaH rfl (.tmp 33) (.tmp 49) rfl w2 B _ (qbc S0 j) (by rfl) _ 1 1 [⟨base,self,(qar log self:Int)+1+(j:Int),pl⟩] (by rfl) rfl HRE.out (by decide) ⟨HOr.out.ext X2.out,fun _ _=>⟨trivial,fun r hr=>by simp[qaH] at hr⟩⟩ qfX (by have:=HTL.out;omega) (by have:=X2.out.size;have:=hBr.out;omega) ?_;intro v3 w3 ho3 hg3 hs3;have HO3:=hJ ho3.1;have HG3:=hJ hg3;have HS3:=hJ hs3;have Y3:Hid (∀i,w3.cell? (Pq p i)=w2.cell? (Pq p i)):=hJ (fun i=>qjT hg3 (by have:=X2.out.size;omega) (fun k hk=>by have:=HCr.out k hk;intro e;subst e;rw[hpcr.out] at this;cases this));clear ho3 hg3 hs3;have u0:w3.cell? (Pq p 0)=some (Jq self):=(Y3.out _).trans s0;have u1:w3.cell? (Pq p 1)=some (.slice Av vs.length cv):=(Y3.out _).trans s1;have u2:w3.cell? (Pq p 2)=some (Jq base):=(Y3.out _).trans s2;have u3:w3.cell? (Pq p 3)=some (.slice A (qbc S0 j).length c):=(Y3.out _).trans s3;have u4:w3.cell? (Pq p 4)=some (Jq stable):=(Y3.out _).trans s4;have u5:w3.cell? (Pq p 5)=some (Jq sent):=(Y3.out _).trans s5;have u6:w3.cell? (Pq p 6)=some (.slice Ap pend.length cp):=(Y3.out _).trans s6;have u7:w3.cell? (Pq p 7)=some (.slice Am marks.length cm):=(Y3.out _).trans s7;have u8:w3.cell? (Pq p 8)=some (.slice Af fls.length cf):=(Y3.out _).trans s8;clear yH;refine hK.out _ _ ⟨u0,u1,u2,u3,u4,u5,u6,u7,u8⟩ (fun yH=>?_);clear hK K;try simp only[Act.put,aP1,aP2,aP3]
    refine E_l ?_;rw[←HNX.out] at HO3;obtain⟨A3,c3,rfl,h31,h32,_⟩:=HO3.out.slice;have fz3':w3.frozen? (Pq p 3)=false:=by
     have h1:w2.frozen? (Pq p 3)=false:=by rw[X2.out.frozen (by exact hpr)];exact fz3
     rw[←h1];exact World.frozen?_of_block (a:=⟨p,3,none⟩) (HG3.out.block p (by have:=X2.out.size;omega) (fun e=>by have:=HCr.out p e.symm;rw[hpcr.out] at this;cases this))
    go_wp2;go_roundw
    case rel=>
     have hst1:Stp B [1,2] (qai col w.heap.size 2) wr (qai col w.heap.size 2) w3:=(Stp.ext' hBr.out X2.out).trans (Stp.grew HG3.out (by have:=X2.out.size;have:=hBr.out;omega) (fun k hk=>(HOr.out.lt k hk).1) HCr.out (by simp));have hst2:Stp B [1,2] (qai col w.heap.size 2) w3 (qai col w.heap.size 2) (w3.setCell (Pq p 3) (.slice A3 (qbc S0 (j+1)).length c3)):=Stp.wrote (Wrote.set _ _ _ _) hbp (by have:=hst1.size;have:=hBr.out;omega) (by rw[hpcr.out];simp);have hcv:ColV (qai col w.heap.size 2) 2 (.slice A3 (qbc S0 (j+1)).length c3):=by
      intro q hq;rcases HS3.out with h|⟨k,hk,hle⟩
      ·rw[h] at hq;exact HCr.out q hq
      ·rw[hk] at hq;cases hq;exact qbB (by have:=X2.out.size;have:=HSr.out.size;omega)
     refine⟨j+1,A3,c3,by go_num,by have:=HTN.out;omega,hJ ?_,hJ ?_,hJ hcv,hJ (HSr.out.trans (hst1.trans hst2))⟩
     ·have h1:BIs w3 p ((⟨self,base,stable,sent,Av,cv,vs,A,c,qbc S0 j,Ap,cp,pend,Am,cm,marks,Af,cf,fls⟩:BM).cells++ex) t:=(HBr.out.ext X2.out).same (HG3.out.block p (by have:=X2.out.size;omega) (fun e=>by have:=HCr.out p e.symm;rw[hpcr.out] at this;cases this));have h2:=h1.set 3 (.slice A3 (qbc S0 (j+1)).length c3);rw[qpo] at h2;exact h2
     ·exact HO3.out.keep fun k hk hlt=>(Wrote.set p 3 w3 _).blk hlt (fun e=>by subst e;have:=hcv k hk;rw[hpcr.out] at this;cases this)
    case measure=>simp[intOf];omega
   ·have hd1:decide ((qar log self:Int)+1+(j:Int)≤sent)=true:=by simpa using hc1
    have hd2:decide (((qbc S0 j).length:Int)<2000)=false:=by have:=HTL.out;simp;omega
    exact qso
  ·have hd1:decide ((qar log self:Int)+1+(j:Int)≤sent)=false:=by simpa using hc1
   exact qso
def qix(B:Nat)(col:Nat→Nat)(p:Nat)(w:World)(r:Cs)(en:Ending)(w':World):Prop:=
 ∃(m':CM) (col':Nat→Nat),en=.returned (.tuple #[])∧CS w' B col' p m'∧m'.cs=r∧Stp B [1,2,3,4,5,7] col w col' w'
theorem CS.cell{w:World}{B:Nat}{col:Nat→Nat}{p:Nat}{m:CM}(h:CS w B col p m)(i:Nat):w.cell? (Pq p i)=m.cells[i]?:=h.box.cell i
theorem CS.free{w:World}{B:Nat}{col:Nat→Nat}{p:Nat}{m:CM}(h:CS w B col p m)(i:Nat):w.frozen? (Pq p i)=false:=h.box.free i
section
variable {B p:Nat} {cs:List Nat} {col col':Nat→Nat} {w w':World} {m:CM}
theorem CS.kiK(h:CS w B col p m)(s:Stp B cs col w col' w')(h0:0∉cs):∀k∈m.pk,pkE.ok k∧Row w' k.A (qac k.bs)∧ColR col' 0 k.A (qac k.bs):=
 fun k hk=>⟨(h.ki k hk).1,s.row (h.ki k hk).2.1 (h.ki k hk).2.2 h0,s.colR (h.ki k hk).2.1 (h.ki k hk).2.2⟩
theorem CS.repk(h:CS w B col p m)(s:Stp B [1,5] col w col' w'){A:Option Addr}{c:Nat}{l:List PkM}(hb:BIs w' p ({m with Ak:=A,ck:=c,pk:=l}:CM).cells 86)(ho:pkE.Own w' B (.slice A l.length c) l)(hc:ColV col' 5 (.slice A l.length c))(hi:∀k∈l,pkE.ok k∧Row w' k.A (qac k.bs)∧ColR col' 0 k.A (qac k.bs)) :
  CS w' B col' p {m with Ak:=A,ck:=c,pk:=l}:=
 ⟨hb,(s.hue p h.lt).trans h.pc,h.bp,h.lies.keep s (by simp) (by simp) (by simp) (by simp) (by simp),ho,hc,hi,s.own h.dl h.dc (by simp),s.colV h.dl h.dc,h.fits,h.cp⟩
end
theorem qsE(t:Int)(A:Option Addr)(c:Nat)(bs:List UInt8)(w:World):Row (w.alloc (.cells #[Jq t,.slice A bs.length c] 102)) (some (Pq w.heap.size 0)) (pkE.cells [⟨t,A,c,bs⟩]):=by
 intro _;refine⟨w.heap.size,0,rfl,by simp,fun j q hj=>?_⟩;simp only[Elem.cells,pkE,List.flatMap_cons,List.flatMap_nil,List.append_nil] at hj
 match j,hj with
 | 0,hj=>simpa using hj
 | 1,hj=>simpa using hj
theorem qfZ(m:CM)(B:Nat)(col:Nat→Nat)(p:Nat)(tgt:Int)(k:Nat)(A:Option Addr)(c:Nat)(body:List UInt8)(w:World)(h:CS w B col p m)(hr:Row w A (qac body))(hl:body.length≤100000000)(hk:1≤k∧k≤255)(hpk:m.pk.length≤100000) :
  Calls Tryz.prog 50 #[.pointer (some (Pq p 0)),Jq tgt,Jq (k:Int),.slice A body.length c] w (qix B col p w (qcm m.cs tgt k body)):=by
 have H:=hJ h;have HR:=hJ hr;have hpl:=h.lt;clear h hr;go_enter Tryz.func50,Tryz.ntmps50;go_wp2_with fail;refine(qq6 k A c body w HR.out hl hk).mono ?_;rintro en w1 ⟨err,A1,c1,rfl,h11,h12,ho1,hx1⟩;have X1:=hJ hx1;have HO1:=hJ ho1;have q9:w1.cell? (Pq p 9)=some (.slice m.Ak m.pk.length m.ck):=by rw[hx1.cell (by exact hpl)];exact H.out.cell 9
 clear hx1 ho1;have C1:Hid (CS (w1.alloc (.cells #[Jq tgt,.slice A1 (qa3 k body).length c1] 102)) B (qai col w.heap.size 0) p m):=hJ (H.out.keep (cs:=[]) (Stp.ext H.out.Bsz (X1.out.trans (Ext.new _ _)) (fun k hk=>qah hk)) (by simp));have HRP:Hid (Row (w1.alloc (.cells #[Jq tgt,.slice A1 (qa3 k body).length c1] 102)) (some (Pw w1 0)) (pkE.cells [⟨tgt,A1,c1,qa3 k body⟩])):=hJ (qsE tgt A1 c1 (qa3 k body) w1);have HF1:Hid (Row (w1.alloc (.cells #[Jq tgt,.slice A1 (qa3 k body).length c1] 102)) A1 (qac (qa3 k body))∧ColR (qai col w.heap.size 0) 0 A1 (qac (qa3 k body))):=hJ ⟨HO1.out.row.ext (Ext.new _ _),fun q _ hq=>by subst hq;exact qbB (HO1.out.lt q.block rfl).1⟩;have E2:Hid (Ext w (w1.alloc (.cells #[Jq tgt,.slice A1 (qa3 k body).length c1] 102))):=hJ (X1.out.trans (Ext.new _ _));obtain⟨b,Ak,ck,pk,Ad,cd,dl⟩:=m;simp only at hpk q9;have hgood:Hid (∀q∈[(⟨tgt,A1,c1,qa3 k body⟩:PkM)],pkE.ok q∧∀r∈pkE.inn q,Row (w1.alloc (.cells #[Jq tgt,.slice A1 (qa3 k body).length c1] 102)) r.1 r.2∧Apt (.slice Ak pk.length ck) r):=hJ (by
  intro q hq;simp only[zC,zN,or_false] at hq;subst hq;refine⟨⟨h11,h12⟩,fun r hr=>?_⟩;simp only[pkE,zC,zN,or_false] at hr;subst hr;exact⟨HF1.out.1,fun p' q hne hp hq e=>by have h1:=HF1.out.2 p' hne hp;have h2:=C1.out.kc q hq;rw[e,h1] at h2;cases h2⟩)
 have hob:Hid (pkE.OB (w1.alloc (.cells #[Jq tgt,.slice A1 (qa3 k body).length c1] 102)) B (.slice Ak pk.length ck) pk):=hJ ⟨C1.out.pk,fun a ha=>⟨(C1.out.ki a ha).1,fun r hr=>by
  simp only[pkE,zC,zN,or_false] at hr;subst hr;exact⟨(C1.out.ki a ha).2.1,fun p' q hne hp hq e=>by have h1:=(C1.out.ki a ha).2.2 p' hne hp;have h2:=C1.out.kc q hq;rw[e,h1] at h2;cases h2⟩⟩⟩
 go_wp2_with (first
  | (at_builtin;refine qcr pkE rfl (.tmp 20) (.tmp 24) rfl _ B _ pk (by rfl) _ 1 1 [⟨tgt,A1,c1,qa3 k body⟩] (by rfl) rfl HRP.out hob.out hgood.out (by omega) C1.out.Bsz ?_;intro v3 w3 ho3 hg3 hs3;obtain⟨A3,c3,rfl,h31,h32,_⟩:=ho3.slice;have BX3:Hid (BIs w3 p (⟨b,Ak,ck,pk,Ad,cd,dl⟩:CM).cells 86):=hJ (C1.out.box.same (hg3.block p C1.out.lt (fun e=>by have:=C1.out.kc p e.symm;rw[C1.out.pc] at this;cases this)));have u9:w3.cell? ⟨p,9,none⟩=some (.slice Ak pk.length ck):=BX3.out.cell 9;have f9:=BX3.out.free 9))
 generalize w1.alloc (.cells #[Jq tgt,.slice A1 (qa3 k body).length c1] 102)=w2 at *;have S2:Hid (Stp B [5] (qai col w.heap.size 0) w2 (qai (qai col w.heap.size 0) w2.heap.size 5) w3):=hJ ((Stp.grew hg3 C1.out.Bsz (fun q hq=>(C1.out.pk.lt q hq).1) C1.out.kc (by simp)).recol (fun k hk=>qah hk));have hcv:Hid (ColV (qai (qai col w.heap.size 0) w2.heap.size 5) 5 (.slice A3 (pk++[(⟨tgt,A1,c1,qa3 k body⟩:PkM)]).length c3)):=hJ (qcG hs3 C1.out.kc (zR _) (fun q hq=>(C1.out.pk.lt q hq).2));have HO3:=hJ ho3;clear hg3 hs3 ho3 q9;go_end0;rw[show pk.length+1=(pk++[(⟨tgt,A1,c1,qa3 k body⟩:PkM)]).length from by simp]
 have hpc3:(qai (qai col w.heap.size 0) w2.heap.size 5) p=1:=(S2.out.hue p C1.out.lt).trans C1.out.pc;have S3:Stp B [1,5] (qai (qai col w.heap.size 0) w2.heap.size 5) w3 (qai (qai col w.heap.size 0) w2.heap.size 5) (w3.setCell (Pq p 9) (.slice A3 (pk++[(⟨tgt,A1,c1,qa3 k body⟩:PkM)]).length c3)):=Stp.wrote (Wrote.set _ _ _ _) H.out.bp (zL C1.out.Bsz S2.out.size) (by rw[hpc3];simp);have S23:=(S2.out.mono (cs':=[1,5]) (by simp)).trans S3;refine⟨⟨b,A3,c3,pk++[⟨tgt,A1,c1,qa3 k body⟩],Ad,cd,dl⟩,qai (qai col w.heap.size 0) w2.heap.size 5,rfl,?_,?_,?_⟩
 ·refine C1.out.repk S23 (BX3.out.set 9 _) (HO3.out.1.keep fun q hq hlt=>(Wrote.set p 9 w3 _).blk hlt (fun e=>by subst e;have:=hcv.out q hq;rw[hpc3] at this;cases this)) hcv.out (fun q hq=>?_);rcases List.mem_append.1 hq with hq|hq
  ·exact C1.out.kiK S23 (by simp) q hq
  ·simp only[zC,zN,or_false] at hq;subst hq;exact⟨⟨h11,h12⟩,S23.row HF1.out.1 HF1.out.2 (by simp),S23.colR HF1.out.1 HF1.out.2⟩
 ·simp[CM.cs,qcm,PkM.v]
 ·exact((Stp.ext (cs:=[1,5]) H.out.Bsz E2.out (fun k hk=>qah hk)).trans S23).mono (cs':=[1,2,3,4,5,7]) (by simp)
theorem qne{l:List (Int×Int)}{k:Nat}{x:Int×Int}{mb:Int}(h:l[k]?=some x)(hn:∀i y,i<k→l[i]?=some y→y.1≠mb)(hx:x.1=mb):qb0 l mb=some x.2:=by
 unfold qb0;rw[List.find?_eq_some_iff_getElem.2 ⟨by simpa using hx,k,(zZ h).1,(zZ h).2,fun j hj=>by have:=hn j _ hj (zY (by have:=(zZ h).1;omega));simpa using this⟩];rfl
theorem qm6{l:List (Int×Int)}{mb:Int}(hn:∀i y,i<l.length→l[i]?=some y→y.1≠mb):qb0 l mb=none:=by
 unfold qb0;rw[List.find?_eq_none.2 (fun x hx=>?_)];rfl;obtain⟨i,hi,rfl⟩:=List.mem_iff_getElem.1 hx;have:=hn i _ hi (zY hi);simpa using this
theorem qqO(m:CM)(B:Nat)(col:Nat→Nat)(p:Nat)(mb:Int)(w:World)(h:CS w B col p m) :
  Calls Tryz.prog 119 #[.pointer (some (Pq p 0)),Jq mb] w fun en w'=>en=.returned (.tuple #[Jq ((qb0 m.b.marks mb).getD 0),.bool (qb0 m.b.marks mb).isSome])∧Ext w w':=by
 have HM:=hJ h.lies.marks.row;have q7:=h.cell 7;have hln:=h.fits.marks;obtain⟨⟨self,base,stable,sent,Av,cv,vs,Al,cl,log,Ap,cp,pend,Am,cm,marks,Af,cf,fls⟩,Ak,ck,pk,Ad,cd,dl⟩:=m;simp only at hln HM⊢;replace q7:w.cell? (Pq p 7)=some (.slice Am marks.length cm):=q7;clear h;go_enter Tryz.func119,Tryz.ntmps119;go_wp2;go_loopw [14] (fun i wr=>∃(k:Nat),k≤marks.length∧i=Jq k∧Hid (∀i y,i<k→marks[i]?=some y→y.1≠mb)∧Hid (Ext w wr)) (fun i _=>marks.length - (intOf i).toNat)
 case atStart=>exact⟨0,zO _,rfl,hJ (fun i y hi=>absurd hi (Nat.not_lt_zero _)),hJ (Ext.refl _)⟩
 case round=>
  obtain⟨k,hk,rfl,HN,HX⟩:=hrel;by_cases hlt:k<marks.length
  ·obtain⟨bb,off,x,rfl,hb,c0,c1,HE⟩:=qgf (HM.out.ext HX.out) hlt;have X1:Hid (Ext w (wr.alloc (.cells #[Jq x.1,Jq x.2] 123))):=hJ (HX.out.trans (Ext.new _ _));by_cases hx:x.1=mb
   ·have HF:=hJ (qne HE.out HN.out hx);have hd:(x.1 == mb)=true:=by simpa using hx
    clear hx;go_wp2;go_ret2
    rw[HF.out];exact⟨rfl,X1.out⟩
   ·have HN':Hid (∀i y,i<k+1→marks[i]?=some y→y.1≠mb):=hJ (fun i y hi hy=>by
     rcases Nat.lt_or_ge i k with h1|h1
     ·exact HN.out i y h1 hy
     ·have:i=k:=by omega
      subst this;rw[HE.out] at hy;cases hy;exact hx)
    have hd:(x.1 == mb)=false:=by simpa using hx
    clear hx;go_wp2;go_roundw
    case rel=>exact⟨k+1,by omega,by go_num,HN',X1⟩
    case measure=>simp[intOf];omega
  ·have HF:=hJ (qm6 (l:=marks) (mb:=mb) (fun i y hi hy=>HN.out i y (by omega) hy));go_wp2;go_ret2
   rw[HF.out];exact⟨rfl,HX.out⟩
theorem qsv(A:Option Addr)(k c:Nat)(l:List Ent)(o:Int)(w:World)(h:Row w A (qaH.cells l))(hn:l.length≤1000000000)(hk:k=l.length) :
  Calls Tryz.prog 91 #[.slice A k c,Jq o] w fun e w'=>e=.returned (Jq (qar l o))∧Ext w w':=by subst hk;exact qcD A c l o w h hn
theorem qnA{A:Option Addr}{l c k:Nat}{q:Addr}(h:qdk A l c k=some q):∃a,A=some a∧a.block=q.block:=by
 unfold qdk at h;split at h
 ·exact⟨q,h,rfl⟩
 ·rcases A with _|a
  ·cases h
  ·simp only[Option.map_some,zJ] at h;refine⟨a,rfl,?_⟩;rw[←h];unfold Addr.add;split<;>rfl
theorem ColR.sub{col:Nat→Nat}{k:Nat}{A:Option Addr}{xs ys:List Value}{l c kk:Nat}(h:ColR col k A xs)(hne:ys≠[]→xs≠[]):ColR col k (qdk A l c kk) ys:=by
 intro q hy hq;obtain⟨a,ha,hb⟩:=qnA hq;rw[←hb];exact h a (hne hy) ha
theorem qpy{c:Cs}{n:Int}(h:n≤c.s.stable):raiseF c n=c:=by unfold raiseF;rw[if_pos h]
theorem CS.redl{B p:Nat}{col col':Nat→Nat}{w w':World}{m:CM}{b':BM}(h:CS w B col p m)(s:Stp B [1,7] col w col' w'){A:Option Addr}{c:Nat}{l:List Ent}(hb:BIs w' p ({m with b:=b',Ad:=A,cd:=c,dl:=l}:CM).cells 86)(hl:b'.Lies w' B col')(hf:b'.Fits)(hcp:b'.pend.length≤b'.cp)(ho:qaH.Own w' B (.slice A l.length c) l)(hc:ColV col' 7 (.slice A l.length c)) :
  CS w' B col' p {m with b:=b',Ad:=A,cd:=c,dl:=l}:=
 ⟨hb,(s.hue p h.lt).trans h.pc,h.bp,hl,s.own h.pk h.kc (by simp),s.colV h.pk h.kc,h.kiK s (by simp),ho,hc,hf,hcp⟩
theorem qj1(m:CM)(B:Nat)(col:Nat→Nat)(p:Nat)(nI:Int)(w:World)(h:CS w B col p m)(hs:0≤m.b.stable)(hn:nI≤m.b.log.length)(hdl:m.dl.length≤100000)
  (hpd:qar (qcQ m.b.log m.b.stable nI) m.b.self≤m.b.pend.length) :
  Calls Tryz.prog 171 #[.pointer (some (Pq p 0)),Jq nI] w (qix B col p w (raiseF m.cs nI)):=by
 have H:=hJ h;have hpl:=h.lt;have q0:=h.cell 0;have q3:=h.cell 3;have q4:=h.cell 4;have q6:=h.cell 6;have q10:=h.cell 10;have f10:=h.free 10;have hfl:=h.fits.log;have hfc:=h.fits.cl;have hcp:=h.cp;clear h;by_cases hle:nI≤m.b.stable
 ·have HF:=hJ (qpy (c:=m.cs) hle);obtain⟨⟨self,base,stable,sent,Av,cv,vs,Al,cl,log,Ap,cp,pend,Am,cm,marks,Af,cf,fls⟩,Ak,ck,pk,Ad,cd,dl⟩:=m;simp only at hle;replace q4:w.cell? (Pq p 4)=some (Jq stable):=q4;clear q0 q3 q6 q10 hpd;go_enter Tryz.func171,Tryz.ntmps171;go_wp2;(try simp only[Exit.inBlock,Exit.then]);refine bodyPost_ret (results_none rfl _ _ _) rfl ?_
  rw[HF.out];exact⟨_,col,rfl,H.out,rfl,Stp.refl _ _ _ _⟩
 ·obtain⟨st,hst⟩:∃st:Nat,m.b.stable=(st:Int):=⟨m.b.stable.toNat,by omega⟩;obtain⟨n,rfl⟩:∃n:Nat,nI=(n:Int):=⟨nI.toNat,by omega⟩;have HF:Hid (raiseF m.cs (n:Int)=⟨{m.b.st with pend:=m.b.pend.drop (qar ((m.b.log.take n).drop st) m.b.self),stable:=n},m.pk.map PkM.v,m.dl++(m.b.log.take n).drop st⟩):=hJ (by
   unfold raiseF;rw[if_neg (by simpa[CM.cs,BM.st] using hle)];simp[CM.cs,BM.st,qcQ,hst])
  have hpd':qar ((m.b.log.take n).drop st) m.b.self≤m.b.pend.length:=by simpa[qcQ,hst] using hpd
  have hlt:st<n:=by omega
  obtain⟨⟨self,base,stable,sent,Av,cv,vs,Al,cl,log,Ap,cp,pend,Am,cm,marks,Af,cf,fls⟩,Ak,ck,pk,Ad,cd,dl⟩:=m;simp only at hst hn hdl hpd' hfl hfc hcp HF;subst hst;replace q0:w.cell? (Pq p 0)=some (Jq self):=q0;replace q3:w.cell? (Pq p 3)=some (.slice Al log.length cl):=q3;replace q4:w.cell? (Pq p 4)=some (Jq (st:Int)):=q4;replace q6:w.cell? (Pq p 6)=some (.slice Ap pend.length cp):=q6;replace q10:w.cell? (Pq p 10)=some (.slice Ad dl.length cd):=q10;have hnl:n≤log.length:=by omega
  have HCL:Hid (n - st=((log.take n).drop st).length):=hJ (by rw[zD,zT];omega);have HPD:=hJ hpd';obtain⟨k,hk⟩:∃k,k=qar ((log.take n).drop st) self:=⟨_,rfl⟩;have HK:=hJ hk;have hkp:k≤pend.length:=by rw[hk];exact hpd'
  clear hpd hpd' hle hn hs;have hslm:∀W,(Instr.slice 23 (.slice Al log.length cl) (some (Jq (st:Int))) (some (Jq (n:Int))) (some (Jq (n:Int)))).run Tryz.prog W=.ok (.slice (qdk Al st n 4) (n - st) (n - st)) W:=fun W=>qaH.slice_lhm Al log.length cl st n n _ _ _ rfl rfl rfl (by omega) (zR _) (by omega) W;have HRC:Hid (Row w (qdk Al st n 4) (qaH.cells ((log.take n).drop st))):=hJ (by
   have h1:Row w Al (qaH.cells (log.take n)):=Elem.row_upto H.out.lies.log.row n;exact Elem.row_from (c:=n) h1 (by rw[zT];omega) st)
  have hd:decide ((n:Int)≤(st:Int))=false:=by simp;omega
  clear hk;go_enter Tryz.func171,Tryz.ntmps171;go_wp2;refine E_g 14 (fun w'=>w'.cell? (Pq p 3)=some (.slice Al log.length cl)∧w'.cell? (Pq p 4)=some (Jq (st:Int))) ⟨by simpa using q3,by simpa using q4⟩ (fun yH=>?_);refine E_t4 0 12 ?_;refine E_t4 4 16 ?_;refine E_t4 8 20 ?_;refine E_t 12 24 ?_;refine E_t 13 4 ?_;refine E_e ?_;have HOD:Hid (qaH.OB w.drew B (.slice Ad dl.length cd) dl):=hJ ⟨H.out.dl.ext zW,fun _ _=>⟨trivial,fun r hr=>by simp[qaH] at hr⟩⟩;go_wp2_with (first
   | (at_builtin;refine qcr qaH rfl (.tmp 29) (.tmp 30) rfl _ B _ dl (by rfl) _ _ _ ((log.take n).drop st) (by rfl) HCL.out (by exact HRC.out.ext zW) HOD.out qfX (by omega) (by exact H.out.Bsz) ?_;intro v2 w2 ho2 hg2 hs2;obtain⟨ND,hnd⟩:∃l,l=dl++((log.take n).drop st):=⟨_,rfl⟩;rw[←hnd] at ho2;have HND:=hJ hnd;clear hnd;obtain⟨A2,c2,rfl,h21,h22,_⟩:=ho2.slice;have BX2:Hid (BIs w2 p (⟨⟨self,base,(st:Int),sent,Av,cv,vs,Al,cl,log,Ap,cp,pend,Am,cm,marks,Af,cf,fls⟩,Ak,ck,pk,Ad,cd,dl⟩:CM).cells 86):=hJ ((H.out.box.ext zW).same (hg2.block p (by exact hpl) (fun e=>by have:=H.out.dc p e.symm;rw[H.out.pc] at this;cases this)));have u10:w2.cell? ⟨p,10,none⟩=some (.slice Ad dl.length cd):=BX2.out.cell 10;have v10:=BX2.out.free 10))
  have S1:Hid (Stp B [1,7] col w (qai col w.heap.size 7) w2):=hJ ((((Stp.ext' (cs:=[1,7]) H.out.Bsz zW).trans (Stp.grew hg2 H.out.Bsz (fun q hq=>(H.out.dl.lt q hq).1) H.out.dc (by simp))).recol (fun k hk=>qah hk)));have HCV:Hid (ColV (qai col w.heap.size 7) 7 (.slice A2 ND.length c2)):=hJ (qcG hs2 H.out.dc (zR _) (fun q hq=>(H.out.dl.lt q hq).2));have HO2:=hJ ho2;have hpc2:Hid ((qai col w.heap.size 7) p=1):=hJ ((S1.out.hue p hpl).trans H.out.pc);have W23:Hid (Wrote p w2 (w2.setCell (Pq p 10) (.slice A2 ND.length c2))):=hJ (Wrote.set _ _ _ _);have BX3:Hid (BIs (w2.setCell (Pq p 10) (.slice A2 ND.length c2)) p (⟨⟨self,base,(st:Int),sent,Av,cv,vs,Al,cl,log,Ap,cp,pend,Am,cm,marks,Af,cf,fls⟩,Ak,ck,pk,A2,c2,ND⟩:CM).cells 86):=hJ (BX2.out.set 10 _);clear ho2 hg2 hs2 u10 v10 BX2;generalize w2.setCell (Pq p 10) (.slice A2 ND.length c2)=w3 at *;have S3:Hid (Stp B [1,7] col w (qai col w.heap.size 7) w3):=hJ (S1.out.trans (Stp.wrote W23.out H.out.bp (zL H.out.Bsz S1.out.size) (by rw[hpc2.out];simp)));have HO3:Hid (qaH.Own w3 B (.slice A2 ND.length c2) ND):=hJ (HO2.out.1.keep fun q hq hlt=>W23.out.blk hlt (fun e=>by subst e;have:=HCV.out q hq;rw[hpc2.out] at this;cases this));have HRC3:Hid (Row w3 (qdk Al st n 4) (qaH.cells ((log.take n).drop st))):=hJ (S3.out.row HRC.out ((H.out.lies.lc.row (xs:=qaH.cells ((log.take n).drop st)) H.out.lies.log).sub (fun h=>h)) (by simp));have u0:w3.cell? (Pq p 0)=some (Jq self):=BX3.out.cell 0;have u6:w3.cell? (Pq p 6)=some (.slice Ap pend.length cp):=BX3.out.cell 6;have hp3:p<w3.heap.size:=BX3.out.lt;have hslp:∀W,(Instr.slice 24 (.slice Ap pend.length cp) (some (Jq (k:Int))) none none).run Tryz.prog W=.ok (.slice (qdk Ap k cp 1) (pend.length - k) (cp - k)) W:=fun W=>qdC.slice_l Ap pend.length cp k _ rfl hkp W;refine E_g 14 (fun w'=>w'.cell? (Pq p 6)=some (.slice Ap pend.length cp)∧w'.cell? (Pq p 0)=some (Jq self)) ⟨by simpa using u6,by simpa using u0⟩ (fun yH=>?_);refine E_t4 0 34 ?_;refine E_t4 4 38 ?_;refine E_t4 8 42 ?_;refine E_r 12 (some 46) fun K hK=>?_;go_simp;go_at_call 91;refine(qsv (qdk Al st n 4) (n - st) (n - st) ((log.take n).drop st) self _ (by exact HRC3.out.ext zW) (by have:=HCL.out;omega) HCL.out).mono ?_;rintro en w4 ⟨rfl,hx4⟩;rw[←HK.out];have X4:Hid (Ext w3 w4):=hJ (zW.trans hx4);clear hx4;have r6:w4.cell? (Pq p 6)=some (.slice Ap pend.length cp):=by rw[X4.out.cell (by exact hp3)];exact u6
  have r0:w4.cell? (Pq p 0)=some (Jq self):=by rw[X4.out.cell (by exact hp3)];exact u0
  clear yH;refine hK.out _ _ ⟨r6,r0⟩ (fun yH=>?_);clear hK K;try simp only[Act.put,aP1,aP2,aP3]
  refine E_t 13 47 ?_;refine E_l ?_;have BX4:=hJ (BX3.out.ext X4.out);have g6:=BX4.out.free 6;have g4:=BX4.out.free 4;have r4:w4.cell? (Pq p 4)=some (Jq (st:Int)):=BX4.out.cell 4;go_wp2;go_end0;rw[HF.out]
  have W4F:Wrote p w4 ((w4.setCell (Pq p 6) (.slice (qdk Ap k cp 1) (pend.length - k) (cp - k))).setCell (Pq p 4) (Jq (n:Int))):=(Wrote.set _ _ _ _).trans (Wrote.set _ _ _ _);have BXF:BIs ((w4.setCell (Pq p 6) (.slice (qdk Ap k cp 1) (pend.length - k) (cp - k))).setCell (Pq p 4) (Jq (n:Int))) p (⟨⟨self,base,(n:Int),sent,Av,cv,vs,Al,cl,log,qdk Ap k cp 1,cp - k,pend.drop k,Am,cm,marks,Af,cf,fls⟩,Ak,ck,pk,A2,c2,ND⟩:CM).cells 86:=by
   have:=(BX4.out.set 6 (.slice (qdk Ap k cp 1) (pend.length - k) (cp - k))).set 4 (Jq (n:Int));simp only[CM.cells,zD];exact this
  have SF:Stp B [1,7] col w (qai col w.heap.size 7) ((w4.setCell (Pq p 6) (.slice (qdk Ap k cp 1) (pend.length - k) (cp - k))).setCell (Pq p 4) (Jq (n:Int))):=S3.out.trans ((Stp.ext' (zL H.out.Bsz S3.out.size) X4.out).trans (Stp.wrote W4F H.out.bp (zL H.out.Bsz (zL S3.out.size X4.out.size)) (by rw[hpc2.out];simp)));have L1:=H.out.lies.keep SF (by simp) (by simp) (by simp) (by simp) (by simp);refine⟨⟨⟨self,base,(n:Int),sent,Av,cv,vs,Al,cl,log,qdk Ap k cp 1,cp - k,pend.drop k,Am,cm,marks,Af,cf,fls⟩,Ak,ck,pk,A2,c2,ND⟩,qai col w.heap.size 7,rfl,?_,?_,SF.mono (cs':=[1,2,3,4,5,7]) (by simp)⟩
  ·refine H.out.redl SF BXF ?_ ?_ ?_ (HO3.out.ext X4.out |>.keep fun q hq hlt=>W4F.blk hlt (fun e=>by subst e;have:=HCV.out q hq;rw[hpc2.out] at this;cases this)) HCV.out
   ·have:=L1.repend (A:=qdk Ap k cp 1) (c:=cp - k) (l:=pend.drop k) (Elem.row_from L1.pend hcp k) (L1.pc.sub (fun h e=>h (by rw[qdC.cells_drop,e];simp)));exact⟨this.vs,this.vc,this.vi,this.log,this.lc,this.pend,this.pc,this.marks,this.mc,this.fls,this.fc,this.fi⟩
   ·have hf:=H.out.fits;exact⟨hf.vs,hf.vx,hf.log,hf.lp,by have:=hf.pend;simp at this⊢;omega,fun q hq=>hf.pp q (List.mem_of_mem_drop hq),hf.marks,hf.fls,hf.fl,hf.cl⟩
   ·simp only[zD];omega
  ·simp only[CM.cs,BM.st,HND.out,HK.out]
end Go.Proofs.YtponbabbabnaeaaGreat
