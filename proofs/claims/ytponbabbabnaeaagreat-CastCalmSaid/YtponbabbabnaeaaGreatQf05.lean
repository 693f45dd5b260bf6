/- Part 5 of the proof: contracts of functions that the statement reaches. Conditions: as each theorem says. -/
import Derived.Test.YtponbabbabnaeaaGreatQf01
import Derived.Test.YtponbabbabnaeaaGreatQf04
set_option maxRecDepth 100000
set_option maxHeartbeats 40000000
namespace Go.Proofs.YtponbabbabnaeaaGreat
section
variable {P : Program} {ops : Array Oper} {Q : Exit → Act → World → Prop} {md : Region.Mode} {S : World → Prop}
theorem qaJ (i d : Nat) {oi : Oper} {v : Value} {fuel : Nat} {listed : Array Bool} {a a' : Act} {w : World} (h : wpAnyH P md ops Q S fuel (listed.setIfInBounds i true) a' w)
    (hi : ops[i]? = some oi := by rfl) (hd : oi.dst = some d := by rfl) (hs : Region.noSelect ops = true := by kernel_rfl) (hf : Region.free md ops listed i = true := by kernel_rfl) (hr : (Region.ready md ops listed).contains i = true := by kernel_rfl)
    (hy : ∀ w9, S w9 → (execOp a.eval oi).run P w9 = .ok (.value v) w9 := by intro w9 hSw; (try dsimp only at hSw); go_simp <;> with_reducible rfl)
    (ha : a.put (some d) v = a' := by simp only [Act.put, l1, l2, l3] <;> rfl) (hQ : ∀ c a w, Q (.panic c) (a.put oi.dst v) w → Q (.panic c) a w := by exact fun _ _ _ h => h)
    (hw : Region.wanted oi (yielded ops a.tmps) = true := by rfl) (hS : S w := by assumption) : wpAnyH P md ops Q S (fuel + 1) listed a w := by
  subst ha; rw [← hd] at h; exact wpAnyH_take hi hs hf hr hQ (Or.inl ⟨hw, hy⟩) hS h
end
end Go.Proofs.YtponbabbabnaeaaGreat
namespace Go.Proofs.YtponbabbabnaeaaGreat
open Go.RowKit
theorem qoZ{vs:List Vw}{f:Fls}(hb:f.2.1≠-1)(h:qaQ vs f.2.1=none):qbL vs f=false:=by unfold qbL;rw[if_neg hb,h];rfl
theorem qoa{vs:List Vw}{f:Fls}{v:Vw}(hb:f.2.1≠-1)(h:qaQ vs f.2.1=some v)(hl:¬f.2.1<(qad vs).1):qbL vs f=false:=by unfold qbL;rw[if_neg hb,h];simp only[decide_eq_false hl,Bool.false_and]
theorem qqW{vs:List Vw}{f:Fls}{v:Vw}(hb:f.2.1≠-1)(h:qaQ vs f.2.1=some v)(hw:qbN v.2 f.1=false):qbL vs f=false:=by unfold qbL;rw[if_neg hb,h];simp only[hw,Bool.and_false,Bool.false_and]
theorem qqM{vs:List Vw}{f:Fls}{v:Vw}(hb:f.2.1≠-1)(h:qaQ vs f.2.1=some v)(hl:f.2.1<(qad vs).1)(hw:qbN v.2 f.1=true):qbL vs f=qaY f.2.2 f.2.1:=by unfold qbL;rw[if_neg hb,h];simp only[decide_eq_true hl,hw,Bool.and_self,Bool.true_and]
theorem qtN{vs:List Vw}{f:Fls}(hb:f.2.1 = -1):qbL vs f=qaY f.2.2 f.2.1:=by unfold qbL;rw[if_pos hb,Bool.true_and]
theorem qbi(A:Option Addr)(c:Nat)(xs:List Int)(id:Int)(w:World)(h:Row w A (qaq xs))(hn:xs.length≤9223372036854775807)(b:Bool)(hb:qbN xs id=b) :
  Calls Tryz.prog 85 #[.slice A xs.length c,Jq id] w fun e w'=>e=.returned (.bool b)∧w'=w:=by
 subst hb;exact(qce A c xs id w h hn).mono fun e w' h=>⟨h.1,h.2.symm⟩
theorem qn2{vs:List Vw}{n:Int}{v:Vw}(h:qaQ vs n=some v):0<vs.length:=by
 have:=List.mem_of_find?_eq_some h;exact List.length_pos_of_mem this
theorem qgY(Av:Option Addr)(cv:Nat)(vs:List VwM)(f:FlM)(w:World)(h:qaC.Box w Av vs)(hf:Row w f.A (qaH.cells f.log))(hn:vs.length≤1000000000)(hx:∀v∈vs,v.xs.length≤1000000)
  (hl:f.log.length≤1000000000) (hlp:∀e∈f.log,e.p.length≤1000000) :
  Calls Tryz.prog 145 #[.slice Av vs.length cv,.agg #[Jq f.m,Jq f.b,.slice f.A f.log.length f.c]] w fun e w'=>e=.returned (.bool (qbL (vws vs) f.v))∧Ext w w':=by
 have H0:=hJ (Ext.new w (.cells #[Jq f.m,Jq f.b,.slice f.A f.log.length f.c] 80));have HV:=hJ (h.ext H0.out);have HF:=hJ (hf.ext H0.out);have HXX:=hJ hx;have HLP:=hJ hlp;clear h hf hx hlp;by_cases hb:f.b = -1
 ·have HB:=hJ (qtN (vs:=vws vs) (f:=f.v) hb);have hb':(f.b != -1)=false:=by simp[hb]
  clear hb;go_enter Tryz.func145,Tryz.ntmps145;go_wp2_with fail;refine(qdl f.A f.c f.log f.b _ HF.out hl HLP.out).mono ?_;rintro e w2 ⟨rfl,hx2⟩;have X2:=hJ (H0.out.trans hx2);clear hx2;go_wp2;go_ret;exact⟨qae HB.out.symm,X2.out⟩
 have HB:=hJ hb;have hb':(f.b != -1)=true:=by simp[hb]
 clear hb;go_enter Tryz.func145,Tryz.ntmps145;go_wp2_with fail;refine(qkd Av cv vs f.b _ HV.out hn).mono ?_;cases hk:qaQ (vws vs) f.b with
 | none=>
  have HK:=hJ (qoZ (f:=f.v) HB.out hk);clear hk;rintro e w1 ⟨A1,c1,rfl,_,_,_,hx1⟩;have X1:=hJ hx1;clear hx1;simp only[Option.getD_none,Option.isSome_none,List.length_nil];go_wp2;go_quiet (fail);go_wp2;go_ret;exact⟨qae HK.out.symm,H0.out.trans ((X1.out.alloc _).drewN _)⟩
 | some v=>
  obtain⟨vn,xs⟩:=v;have hp:0<vs.length:=by have:=qn2 hk;rwa [qaX] at this
  have HK:=hJ hk;have hxl:xs.length≤9223372036854775807:=by
   have:=List.mem_of_find?_eq_some hk;obtain⟨u,hu,hv⟩:=List.mem_map.1 this;have:=HXX.out u hu;have e:u.xs=xs:=by have:=congrArg Prod.snd hv;exact this
   rw[e] at this;omega
  clear hk;rintro e w1 ⟨A1,c1,rfl,_,_,HR1,hx1⟩;have X1:=hJ hx1;clear hx1;simp only[Option.getD_some,Option.isSome_some] at HR1⊢;obtain⟨⟨ln,lxs⟩,hl2⟩:∃v,qad (vws vs)=v:=⟨_,rfl⟩;have HL:=hJ hl2;clear hl2;have hfd:=qe8;have X3:=hJ (X1.out.alloc (.cells #[Jq vn,.slice A1 xs.length c1] 46));have RV:=hJ (HV.out.ext X3.out.drew);have R1:=hJ (HR1.out.ext (Ext.drew (Ext.new _ (.cells #[Jq vn,.slice A1 xs.length c1] 46))));have zz:w.heap.size<w1.heap.size:=by have:=X1.out.size;simp at this;omega
  have q0:w1.cell? (Pw w 0)=some (Jq f.m):=by simpa using X1.out.cell_new 0
  have q1:w1.cell? (Pw w 1)=some (Jq f.b):=by simpa using X1.out.cell_new 1
  have q2:w1.cell? (Pw w 2)=some (.slice f.A f.log.length f.c):=by simpa using X1.out.cell_new 2
  have s0:(w1.alloc (.cells #[Jq vn,.slice A1 xs.length c1] 46)).cell? (Pw w 0)=some (Jq f.m):=by simpa using X3.out.cell_new 0
  have s1:(w1.alloc (.cells #[Jq vn,.slice A1 xs.length c1] 46)).cell? (Pw w 1)=some (Jq f.b):=by simpa using X3.out.cell_new 1
  have s2:(w1.alloc (.cells #[Jq vn,.slice A1 xs.length c1] 46)).cell? (Pw w1 1)=some (.slice A1 xs.length c1):=by simp
  by_cases hlt:f.b<ln;rotate_left
  ·have HLT:=hJ (qoa (f:=f.v) HB.out HK.out (by rw[HL.out];exact hlt));have hlt':decide (ln≤f.b)=true:=decide_eq_true (by omega);clear hlt;go_wp2;refine wp_region_held_drew (S:=fun w'=>w'.cell? (Pw w 0)=some (Jq f.m)∧w'.cell? (Pw w 1)=some (Jq f.b)∧w'.cell? (Pw w1 1)=some (.slice A1 xs.length c1)) (by kernel_rfl) ⟨s0,s1,s2⟩ (fun yH=>?_);refine qaJ 0 17 ?_;refine qaJ 1 18 ?_;refine qaJ 2 19 ?_;refine qaJ 3 20 ?_;refine qaJ 4 21 ?_;refine qaJ 5 22 ?_;refine wpAnyH_ready (rs:=[6]) (by kernel_rfl) (by simp) ?_;refine AllReadyH.cons (o:=⟨some 23,_,_,_,_,_⟩) rfl (fun K hK=>?_) AllReadyH.nil;go_simp;go_at_call 49;refine(qef Av cv vs _ RV.out hp hn ln lxs HL.out).mono ?_;rintro e w4 ⟨A4,c4,rfl,_,_,_,hx4⟩;have X4:=hJ ((X3.out.drew).trans hx4);have r0:w4.cell? (Pw w 0)=some (Jq f.m):=by simpa using X4.out.cell_new 0
   have r1:w4.cell? (Pw w 1)=some (Jq f.b):=by simpa using X4.out.cell_new 1
   have r2:w4.cell? (Pw w1 1)=some (.slice A1 xs.length c1):=by rw[hx4.cell (by simp)];simp
   clear yH hx4;refine hK.out _ _ ⟨r0,r1,r2⟩ (fun yH=>?_)
   try simp only[Act.put,l1,l2,l3]
   refine qaJ 7 24 ?_;refine qaJ 8 25 ?_;refine qaJ 9 26 ?_;refine qaJ 10 27 ?_;refine wpAnyH_take (i:=11) (oi:=⟨some 28,_,_,_,_,_⟩) (v:=undef) rfl (by kernel_rfl) (by kernel_rfl) (by kernel_rfl) (fun _ _ _ h=>h) (Or.inr ⟨by rfl,rfl⟩) (by assumption) ?_
   try simp only[Act.put,l1,l2,l3]
   refine wpAnyH_take (i:=12) (oi:=⟨some 29,_,_,_,_,_⟩) (v:=undef) rfl (by kernel_rfl) (by kernel_rfl) (by kernel_rfl) (fun _ _ _ h=>h) (Or.inr ⟨by rfl,rfl⟩) (by assumption) ?_
   try simp only[Act.put,l1,l2,l3]
   refine wpAnyH_take (i:=13) (oi:=⟨some 30,_,_,_,_,_⟩) (v:=undef) rfl (by kernel_rfl) (by kernel_rfl) (by kernel_rfl) (fun _ _ _ h=>h) (Or.inr ⟨by rfl,rfl⟩) (by assumption) ?_
   try simp only[Act.put,l1,l2,l3]
   refine wpAnyH_take (i:=14) (oi:=⟨some 31,_,_,_,_,_⟩) (v:=undef) rfl (by kernel_rfl) (by kernel_rfl) (by kernel_rfl) (fun _ _ _ h=>h) (Or.inr ⟨by rfl,rfl⟩) (by assumption) ?_
   try simp only[Act.put,l1,l2,l3]
   refine wpAnyH_take (i:=15) (oi:=⟨some 32,_,_,_,_,_⟩) (v:=undef) rfl (by kernel_rfl) (by kernel_rfl) (by kernel_rfl) (fun _ _ _ h=>h) (Or.inr ⟨by rfl,rfl⟩) (by assumption) ?_
   try simp only[Act.put,l1,l2,l3]
   refine wpAnyH_take (i:=16) (oi:=⟨some 33,_,_,_,_,_⟩) (v:=undef) rfl (by kernel_rfl) (by kernel_rfl) (by kernel_rfl) (fun _ _ _ h=>h) (Or.inr ⟨by rfl,rfl⟩) (by assumption) ?_
   try simp only[Act.put,l1,l2,l3]
   refine qaJ 17 34 ?_;refine wpAnyH_done (by kernel_rfl) ?_ _;go_wp2;go_ret;exact⟨qae HLT.out.symm,H0.out.trans X4.out⟩
  have HLT:=hJ (show f.v.2.1<(qad (vws vs)).1 by rw[HL.out];exact hlt);have hlt':decide (ln≤f.b)=false:=decide_eq_false (by omega);clear hlt;cases hh:qbN xs f.m
  ·have HH:=hJ (qqW (f:=f.v) HB.out HK.out hh);have HHH:=hJ hh;clear hh;go_wp2;go_region_held3 (fun w'=>w'.cell? (Pw w 0)=some (Jq f.m)∧w'.cell? (Pw w 1)=some (Jq f.b)∧w'.cell? (Pw w1 1)=some (.slice A1 xs.length c1))
    (first|exact⟨s0,s1,s2⟩|exact⟨r0,r1,r2⟩)
    (first
     | (go_at_call 49;(with_reducible refine(qef Av cv vs _ (by exact RV.out) hp hn ln lxs (by exact HL.out)).mono ?_);rintro e w4 ⟨A4,c4,rfl,_,_,_,hx4⟩;have X4:=hJ (Ext.trans (X3.out.drew) hx4);have R4:=hJ (R1.out.ext hx4);have r0:w4.cell? ⟨w.heap.size,0,none⟩=some (.int .i64 f.m):=(by simpa using X4.out.cell_new 0);have r1:w4.cell? ⟨w.heap.size,1,none⟩=some (.int .i64 f.b):=(by simpa using X4.out.cell_new 1);have r2:w4.cell? ⟨w1.heap.size,1,none⟩=some (.slice A1 xs.length c1):=(by rw[hx4.cell (by simp)];simp);clear hx4)
     | (go_at_call 85;(with_reducible refine(qbi A1 c1 xs f.m _ (by exact R4.out) hxl _ (by exact HHH.out)).mono ?_);rintro e w5 ⟨rfl,rfl⟩))
   go_wp2;go_ret;exact⟨qae HH.out.symm,H0.out.trans X4.out⟩
  ·have HH:=hJ (qqM (f:=f.v) HB.out HK.out HLT.out hh);have HHH:=hJ hh;clear hh;go_wp2;go_region_held3 (fun w'=>w'.cell? (Pw w 0)=some (Jq f.m)∧w'.cell? (Pw w 1)=some (Jq f.b)∧w'.cell? (Pw w1 1)=some (.slice A1 xs.length c1))
    (first|exact⟨s0,s1,s2⟩|exact⟨r0,r1,r2⟩)
    (first
     | (go_at_call 49;(with_reducible refine(qef Av cv vs _ (by exact RV.out) hp hn ln lxs (by exact HL.out)).mono ?_);rintro e w4 ⟨A4,c4,rfl,_,_,_,hx4⟩;have X4:=hJ (Ext.trans (X3.out.drew) hx4);have R4:=hJ (R1.out.ext hx4);have r0:w4.cell? ⟨w.heap.size,0,none⟩=some (.int .i64 f.m):=(by simpa using X4.out.cell_new 0);have r1:w4.cell? ⟨w.heap.size,1,none⟩=some (.int .i64 f.b):=(by simpa using X4.out.cell_new 1);have r2:w4.cell? ⟨w1.heap.size,1,none⟩=some (.slice A1 xs.length c1):=(by rw[hx4.cell (by simp)];simp);clear hx4)
     | (go_at_call 85;(with_reducible refine(qbi A1 c1 xs f.m _ (by exact R4.out) hxl _ (by exact HHH.out)).mono ?_);rintro e w5 ⟨rfl,rfl⟩))
   have r3:w5.cell? (Pw w 2)=some (.slice f.A f.log.length f.c):=by simpa using X4.out.cell_new 2
   go_wp2_with fail;refine(qdl f.A f.c f.log f.b _ (HF.out.ext X4.out) hl HLP.out).mono ?_;rintro e w6 ⟨rfl,hx5⟩;have X5:=hJ (X4.out.trans hx5);clear hx5;go_wp2;go_ret;exact⟨qae HH.out.symm,H0.out.trans X5.out⟩
end Go.Proofs.YtponbabbabnaeaaGreat
namespace Go.Proofs.YtponbabbabnaeaaGreat
open Go.RowKit
theorem qmJ {P : Prop} (h : P := by
 refine⟨?_,?_,?_,?_,?_,?_,?_,?_,?_,?_⟩
 ·simpa using h.cell_new 0
 ·simpa using h.cell_new 1
 ·simpa using h.cell_new 2
 ·simpa using h.cell_new 3
 ·simpa using h.cell_new 4
 ·simpa using h.cell_new 5
 ·simpa using h.cell_new 6
 ·simpa using h.cell_new 7
 ·simpa using h.cell_new 8
 ·have:=h.size;simp at this;omega) : P := h
theorem qmw{w w':World}{b:BM}(h:Ext (w.alloc (.cells b.cells 28)) w') :
  w'.cell? (Pq w.heap.size 0)=some (Jq b.self)∧w'.cell? (Pq w.heap.size 1)=some (.slice b.Av b.vs.length b.cv)∧w'.cell? (Pq w.heap.size 2)=some (Jq b.base)∧w'.cell? (Pq w.heap.size 3)=some (.slice b.Al b.log.length b.cl)∧w'.cell? (Pq w.heap.size 4)=some (Jq b.stable)∧w'.cell? (Pq w.heap.size 5)=some (Jq b.sent)∧w'.cell? (Pq w.heap.size 6)=some (.slice b.Ap b.pend.length b.cp)∧w'.cell? (Pq w.heap.size 7)=some (.slice b.Am b.marks.length b.cm)∧w'.cell? (Pq w.heap.size 8)=some (.slice b.Af b.fls.length b.cf)∧w.heap.size<w'.heap.size:=by
 exact qmJ
theorem open_b(b:BM)(w:World)(h:b.Reads w)(hp:0<b.vs.length)(hf:b.Fits)(r:Bool)(hr:qan b.st=r) :
  Calls Tryz.prog 40 #[.agg b.cells] w fun e w'=>e=.returned (.bool r)∧Ext w w':=by
 subst hr;exact qdU b w h hp hf
theorem qjo(b:BM)(w:World)(h:b.Reads w)(hp:0<b.vs.length)(hf:b.Fits)(r:Bool)(hr:qas b.st=r) :
  Calls Tryz.prog 41 #[.agg b.cells] w fun e w'=>e=.returned (.bool r)∧Ext w w':=by
 subst hr;exact qdt b w h hp hf
abbrev BM.cells2(b:BM)(Am Af:Option Addr):Array Value:=#[.int .i64 b.self,.slice b.Av b.vs.length b.cv,.int .i64 b.base,.slice b.Al b.log.length b.cl,.int .i64 b.stable,.int .i64 b.sent,.slice b.Ap b.pend.length b.cp,.slice Am b.marks.length b.cm,.slice Af b.fls.length b.cf]
theorem qhN{w w':World}{b:BM}{Am Af:Option Addr}(h:Ext (w.alloc (.cells (b.cells2 Am Af) 28)) w') :
  w'.cell? (Pq w.heap.size 0)=some (Jq b.self)∧w'.cell? (Pq w.heap.size 1)=some (.slice b.Av b.vs.length b.cv)∧w'.cell? (Pq w.heap.size 2)=some (Jq b.base)∧w'.cell? (Pq w.heap.size 3)=some (.slice b.Al b.log.length b.cl)∧w'.cell? (Pq w.heap.size 4)=some (Jq b.stable)∧w'.cell? (Pq w.heap.size 5)=some (Jq b.sent)∧w'.cell? (Pq w.heap.size 6)=some (.slice b.Ap b.pend.length b.cp)∧w'.cell? (Pq w.heap.size 7)=some (.slice Am b.marks.length b.cm)∧w'.cell? (Pq w.heap.size 8)=some (.slice Af b.fls.length b.cf)∧w.heap.size<w'.heap.size:=by
 exact qmJ
theorem qup(b:BM)(Am Af:Option Addr)(w:World)(h1:b.Am=Am)(h2:b.Af=Af)(h:b.Reads w)(hp:0<b.vs.length)(hf:b.Fits)(r:Bool)(hr:qan b.st=r) :
  Calls Tryz.prog 40 #[.agg #[Jq b.self,.slice b.Av b.vs.length b.cv,Jq b.base,.slice b.Al b.log.length b.cl,Jq b.stable,Jq b.sent,.slice b.Ap b.pend.length b.cp,.slice Am b.marks.length b.cm,.slice Af b.fls.length b.cf]] w fun e w'=>e=.returned (.bool r)∧Ext w w':=by
 subst h1 h2;exact open_b b w h hp hf r hr
theorem qs0(b:BM)(Am Af:Option Addr)(w:World)(h1:b.Am=Am)(h2:b.Af=Af)(h:b.Reads w)(hp:0<b.vs.length)(hf:b.Fits)(r:Bool)(hr:qas b.st=r) :
  Calls Tryz.prog 41 #[.agg #[Jq b.self,.slice b.Av b.vs.length b.cv,Jq b.base,.slice b.Al b.log.length b.cl,Jq b.stable,Jq b.sent,.slice b.Ap b.pend.length b.cp,.slice Am b.marks.length b.cm,.slice Af b.fls.length b.cf]] w fun e w'=>e=.returned (.bool r)∧Ext w w':=by
 subst h1 h2;exact qjo b w h hp hf r hr
def qva(s:St):Bool:=(decide (0<s.marks.length)&&(!qan s||!qas s))||(decide (0<s.fls.length)&&(qan s||!qas s))
theorem qrr(s:St):qcx s=(!qva s&&((List.range s.marks.length).all (qbA s)&&(List.range s.fls.length).all (qdH s))):=by
 unfold qcx qva;have e1:decide (s.marks.length=0)=!decide (0<s.marks.length):=by rw[Bool.eq_iff_iff];simp
 have e2:decide (s.fls.length=0)=!decide (0<s.fls.length):=by rw[Bool.eq_iff_iff];simp
 rw[e1,e2];cases decide (0<s.marks.length)<;>cases decide (0<s.fls.length)<;>cases qan s<;>cases qas s<;>simp
theorem qgf{w:World}{A:Option Addr}{l:List (Int×Int)}{i:Nat}(h:Row w A (qat.cells l))(hi:i<l.length) :
  ∃b off m,A=some (Pq b off)∧b<w.heap.size∧w.cell? (Pq b (off+i*2))=some (Jq (Prod.fst m))∧w.cell? (Pq b (off+i*2+1))=some (Jq m.2)∧Hid (l[i]?=some m):=by
 obtain⟨b,off,m,h1,h2,h3,_,h5⟩:=Elem.Box.at_ (E:=qat) (w:=w) (A:=A) (l:=l) ⟨h,fun a _=>⟨trivial,fun r hr=>by simp[qat] at hr⟩⟩ hi;have h3':∀j u,(qat.f m)[j]?=some u→w.cell? (Pq b (off+i*2+j))=some u:=h3.out;exact⟨b,off,m,h1,h2,by simpa using h3' 0 _ rfl,h3' 1 _ rfl,h5⟩
theorem qie{w:World}{A:Option Addr}{l:List FlM}{i:Nat}(h:flE.Box w A l)(hi:i<l.length) :
  ∃b off f,A=some (Pq b off)∧b<w.heap.size∧w.cell? (Pq b (off+i*3))=some (Jq (FlM.m f))∧w.cell? (Pq b (off+i*3+1))=some (Jq f.b)∧w.cell? (Pq b (off+i*3+2))=some (.slice f.A f.log.length f.c)∧Hid (Row w f.A (qaH.cells f.log))∧Hid (l[i]?=some f):=by
 obtain⟨b,off,f,h1,h2,h3,h4,h5⟩:=h.at_ hi;have h3':∀j u,(flE.f f)[j]?=some u→w.cell? (Pq b (off+i*3+j))=some u:=h3.out;exact⟨b,off,f,h1,h2,by simpa using h3' 0 _ rfl,h3' 1 _ rfl,h3' 2 _ rfl,hJ (h4.out.2 (f.A,qaH.cells f.log) (by simp[flE])),h5⟩
theorem qbH(n:Int)(A:Option Addr)(k c:Nat)(w:World):(Instr.field 46 (.agg #[Jq n,.slice A k c]) 1).run Tryz.prog w=.ok (.slice A k c) w:=by
 simp[Instr.field,asAgg,go_sem]
theorem qre{l:List (Int×Int)}{k:Nat}{m:Int×Int}(h:l[k]?=some m):qsn l (k+1)=m.1:=by unfold qsn;rw[if_neg (by omega),Nat.add_sub_cancel,h];rfl
theorem qp1{l:List Fls}{k:Nat}{m:Fls}(h:l[k]?=some m):qrR l (k+1)=m.1:=by unfold qrR;rw[if_neg (by omega),Nat.add_sub_cancel,h];rfl
theorem qrU{n k:Nat}{p:Nat→Bool}(hk:k<n)(h:p k=false):(List.range n).all p=false:=by
 rw[List.all_eq_false];exact⟨k,List.mem_range.2 hk,by simp[h]⟩
theorem qpp{n:Nat}{p:Nat→Bool}(h:∀j,j<n→p j=true):(List.range n).all p=true:=by
 rw[List.all_eq_true];exact fun j hj=>h j (List.mem_range.1 hj)
theorem qms{k:Nat}{p:Nat→Bool}(h:∀j,j<k→p j=true)(hk:p k=true):∀j,j<k+1→p j=true:=by
 intro j hj;rcases Nat.lt_or_ge j k with h1|h1
 ·exact h j h1
 ·rw[show j=k by omega];exact hk
theorem qpN{b:BM}{k:Nat}(hlt:k<b.marks.length)(hE:qcx b.st=(!false&&((List.range b.st.marks.length).all (qbA b.st)&&(List.range b.st.fls.length).all (qdH b.st))))(h:qbA b.st k=false):false=qcx b.st:=by
 rw[hE,qrU (n:=b.st.marks.length) (k:=k) hlt h];rfl
theorem qjI(b:BM):b.st.fls.length=b.fls.length:=by show (b.fls.map FlM.v).length=_;rw[zP]
theorem qsr{b:BM}{k:Nat}(hlt:k<b.fls.length)(hE:qcx b.st=(!false&&((List.range b.st.marks.length).all (qbA b.st)&&(List.range b.st.fls.length).all (qdH b.st))))(hm:(List.range b.st.marks.length).all (qbA b.st)=true)(h:qdH b.st k=false):false=qcx b.st:=by
 rw[hE,hm,qrU (n:=b.st.fls.length) (k:=k) (by rw[qjI];exact hlt) h];rfl
theorem qu8{b:BM}(hE:qcx b.st=(!false&&((List.range b.st.marks.length).all (qbA b.st)&&(List.range b.st.fls.length).all (qdH b.st))))(hm:(List.range b.st.marks.length).all (qbA b.st)=true)(h:∀j,j<b.fls.length→qdH b.st j=true):true=qcx b.st:=by
 rw[hE,hm,qpp (n:=b.st.fls.length) (fun j hj=>h j (by rw[qjI] at hj;exact hj))];rfl
theorem quB{s:St}{k:Nat}{m:Int×Int}(h:s.marks[k]?=some m):qbA s k=qfY s k m:=by unfold qbA;rw[h]
theorem quq{s:St}{k:Nat}{f:Fls}(h:s.fls[k]?=some f):qdH s k=qtt s k f:=by unfold qdH;rw[h]
theorem qiw(b:BM)(Am Af:Option Addr)(w:World)(hAm:b.Am=Am)(hAf:b.Af=Af)(h:b.Reads w)(hp:0<b.vs.length)(hf:b.Fits) :
  Calls Tryz.prog 92 #[.agg #[Jq b.self,.slice b.Av b.vs.length b.cv,Jq b.base,.slice b.Al b.log.length b.cl,Jq b.stable,Jq b.sent,.slice b.Ap b.pend.length b.cp,.slice Am b.marks.length b.cm,.slice Af b.fls.length b.cf]] w fun e w'=>e=.returned (.bool (qcx b.st))∧Ext w w':=by
 have H0:=hJ (Ext.new w (.cells (b.cells2 Am Af) 28));have HR:=hJ (h.ext H0.out);have hn:b.vs.length≤1000000000:=by have:=hf.vs;omega
 have hml:b.marks.length≤1000000000:=by have:=hf.marks;omega
 have hfl:b.fls.length≤1000000000:=by have:=hf.fls;omega
 have hll:b.log.length≤1000000000:=by have:=hf.log;omega
 have hxl0:=qhV hf.vx;have HFT:=hJ hf;have HAm:=hJ hAm;have HAf:=hJ hAf;clear h hf hAm hAf;have HE:=hJ (qrr b.st);obtain⟨bad,hbad⟩:∃x,qva b.st=x:=⟨_,rfl⟩;rw[hbad] at HE;have HBAD:Hid (((decide (0<b.marks.length)&&(!qan b.st||!qas b.st))||(decide (0<b.fls.length)&&(qan b.st||!qas b.st)))=bad):=hJ (by
  rw[←hbad];show _=((decide (0<b.marks.length)&&_)||(decide (0<(b.fls.map FlM.v).length)&&_));rw[zP])
 clear hbad;obtain⟨ob,hob⟩:∃x,qan b.st=x:=⟨_,rfl⟩;obtain⟨lb,hlb⟩:∃x,qas b.st=x:=⟨_,rfl⟩;have HOB:=hJ hob;have HLB:=hJ hlb;rw[hob,hlb] at HBAD;clear hob hlb;unfold BM.cells2 at H0 HR;go_enter Tryz.func92,Tryz.ntmps92;go_upto_region 1 with fail;go_cut [36] (fun s36 wx=>s36=.bool bad∧Ext (w.alloc (.cells (b.cells2 Am Af) 28)) wx)
 case first=>
  obtain⟨bm,hbm⟩:∃x,decide (0<b.marks.length)=x:=⟨_,rfl⟩;obtain⟨bf,hbf⟩:∃x,decide (0<b.fls.length)=x:=⟨_,rfl⟩;have hbm2:decide ((0:Int)<(b.marks.length:Int))=bm:=by rw[←hbm,Bool.eq_iff_iff];simp
  have hbf2:decide ((0:Int)<(b.fls.length:Int))=bf:=by rw[←hbf,Bool.eq_iff_iff];simp
  rw[hbm,hbf] at HBAD;have X:=hJ (Ext.refl (w.alloc (.cells (b.cells2 Am Af) 28)));cases bm<;>cases bf<;>cases ob<;>cases lb<;>
   (go_wp2_with (first
    | (go_at_call 40;refine(qup b Am Af _ HAm.out HAf.out (HR.out.ext X.out) hp HFT.out _ HOB.out).mono ?_;rintro e wn ⟨rfl,hxn⟩;have X:=hJ (Ext.trans X.out hxn);clear hxn;obtain⟨q0,q1,q2,q3,q4,q5,q6,q7,q8,zz⟩:=qhN X.out)
    | (go_at_call 41;refine(qs0 b Am Af _ HAm.out HAf.out (HR.out.ext X.out) hp HFT.out _ HLB.out).mono ?_;rintro e wn ⟨rfl,hxn⟩;have X:=hJ (Ext.trans X.out hxn);clear hxn;obtain⟨q0,q1,q2,q3,q4,q5,q6,q7,q8,zz⟩:=qhN X.out))
    go_meet
    case rel=>exact⟨by rw[←HBAD.out];rfl,X.out⟩)
 case rest=>
  obtain⟨rfl,HX0⟩:=hcut;have X1:=hJ HX0;clear HX0;obtain⟨q0,q1,q2,q3,q4,q5,q6,q7,q8,z1⟩:=qhN X1.out;clear HBAD;cases bad;rotate_left
  ·go_wp2;go_ret;exact⟨qae (by rw[HE.out];rfl),H0.out.trans X1.out⟩
  obtain⟨⟨ln,lxs⟩,hl2⟩:∃v,qad (vws b.vs)=v:=⟨_,rfl⟩;have HL:=hJ hl2;have HLV:Hid (qad b.st.views=(ln,lxs)):=hJ hl2;rw[hl2] at hxl0;have hxl:lxs.length≤9223372036854775807:=by simp only at hxl0;omega
  clear hl2 hxl0;have hfd:=qbH;go_wp2;go_loopw [3,40] (fun bf i wr=>∃k:Nat,k≤b.marks.length∧i=Jq k∧bf=Jq (qsn b.marks k)∧Hid (∀j,j<k→qbA b.st j=true)∧Ext (w.alloc (.cells (b.cells2 Am Af) 28)) wr) (fun _ i _=>b.marks.length - (intOf i).toNat)
  case atStart=>exact⟨0,zO _,rfl,rfl,hJ (fun j hj=>absurd hj (Nat.not_lt_zero _)),X1.out⟩
  case round=>
   obtain⟨k,hk,rfl,rfl,HT,HS0⟩:=hrel;have HS:=hJ HS0;clear HS0;obtain⟨p0,p1,p2,p3,p4,p5,p6,p7,p8,zr⟩:=qhN HS.out;by_cases hlt:k<b.marks.length
   ·obtain⟨bb,off,m,rfl,hb,c0,c1,HM⟩:=qgf (show Row wr Am (qat.cells b.marks) by rw[←HAm.out];exact(HR.out.ext HS.out).marks) hlt;have HN:=hJ (qre HM.out);have HOK:Hid (qbA b.st k=(decide (qsn b.marks k<m.1)&&(decide (m.1≠b.self)&&(qbN lxs m.1&&(decide (0≤m.2)&&decide (m.2≤b.log.length)))))):=hJ (by
     rw[quB (s:=b.st) HM.out,qfY,HLV.out];rfl)
    have X3:=hJ (HS.out.alloc (.cells #[Jq m.1,Jq m.2] 123));have RV:=hJ ((HR.out.ext X3.out.drew).vs);have s0:(wr.alloc (.cells #[Jq m.1,Jq m.2] 123)).cell? (Pw w 0)=some (Jq b.self):=by simpa using X3.out.cell_new 0
    have s1:(wr.alloc (.cells #[Jq m.1,Jq m.2] 123)).cell? (Pw w 1)=some (.slice b.Av b.vs.length b.cv):=by simpa using X3.out.cell_new 1
    have s2:(wr.alloc (.cells #[Jq m.1,Jq m.2] 123)).cell? (Pw w 3)=some (.slice b.Al b.log.length b.cl):=by simpa using X3.out.cell_new 3
    have s3:(wr.alloc (.cells #[Jq m.1,Jq m.2] 123)).cell? (Pw wr 0)=some (Jq m.1):=by simp
    have s4:(wr.alloc (.cells #[Jq m.1,Jq m.2] 123)).cell? (Pw wr 1)=some (Jq m.2):=by simp
    generalize qsn b.marks k=bf at *;by_cases h1:bf<m.1;rotate_left
    ·have h1':decide (m.1≤bf)=true:=decide_eq_true (by omega);have H1:=hJ h1;clear h1;go_wp2;go_quiet (fail);go_wp2;go_ret;exact⟨qae (qpN hlt HE.out (by rw[HOK.out,decide_eq_false (Int.not_lt.2 H1.out)];rfl)),H0.out.trans (X3.out.drewN _)⟩
    have H1:=hJ h1;have h1':decide (m.1≤bf)=false:=decide_eq_false (by omega);clear h1;by_cases h2:m.1=b.self
    ·have h2':(m.1 == b.self)=true:=by simp[h2]
     have H2:=hJ h2;clear h2;go_wp2;go_quiet (fail);go_wp2;go_ret;exact⟨qae (qpN hlt HE.out (by rw[HOK.out,decide_eq_false (p:=m.1≠b.self) (fun hh=>hh H2.out)];simp)),H0.out.trans (X3.out.drewN _)⟩
    have h2':(m.1 == b.self)=false:=beq_eq_false_iff_ne.2 h2;have H2:=hJ h2;clear h2;cases h3:qbN lxs m.1
    ·have HH:=hJ h3;clear h3;go_wp2;refine wp_region_held_drew (S:=fun w'=>w'.cell? (Pw w 0)=some (Jq b.self)∧w'.cell? (Pw w 1)=some (.slice b.Av b.vs.length b.cv)∧w'.cell? (Pw w 3)=some (.slice b.Al b.log.length b.cl)∧w'.cell? (Pw wr 0)=some (Jq m.1)∧w'.cell? (Pw wr 1)=some (Jq m.2)) (by kernel_rfl) ⟨s0,s1,s2,s3,s4⟩ (fun yH=>?_);refine qaJ 0 44 ?_;refine qaJ 1 45 ?_;refine qaJ 2 46 ?_;refine qaJ 3 47 ?_;refine qaJ 4 48 ?_;refine qaJ 5 49 ?_;refine qaJ 6 50 ?_;refine qaJ 7 51 ?_;refine qaJ 8 52 ?_;refine qaJ 9 53 ?_;refine qaJ 10 54 ?_;refine qaJ 11 55 ?_;refine qaJ 12 56 ?_;refine qaJ 13 57 ?_;refine qaJ 16 60 ?_;refine qaJ 17 61 ?_;refine wpAnyH_ready (rs:=[14]) (by kernel_rfl) (by simp) ?_;refine AllReadyH.cons (o:=⟨some 58,_,_,_,_,_⟩) rfl (fun K hK=>?_) AllReadyH.nil;go_simp;go_at_call 49;refine(qef b.Av b.cv b.vs _ RV.out hp hn ln lxs HL.out).mono ?_;rintro e w4 ⟨A4,c4,rfl,_,_,HR4,hx4⟩;have X4:=hJ ((X3.out.drew).trans hx4);have r0:w4.cell? (Pw w 0)=some (Jq b.self):=(by first|(simpa using X4.out.cell_new 0)|(rw[hx4.cell (by simp)];simp));have r1:w4.cell? (Pw w 1)=some (.slice b.Av b.vs.length b.cv):=(by first|(simpa using X4.out.cell_new 1)|(rw[hx4.cell (by simp)];simp));have r2:w4.cell? (Pw w 3)=some (.slice b.Al b.log.length b.cl):=(by first|(simpa using X4.out.cell_new 3)|(rw[hx4.cell (by simp)];simp));have r3:w4.cell? (Pw wr 0)=some (Jq m.1):=(by first|(simpa using X4.out.cell_new 0)|(rw[hx4.cell (by simp)];simp));have r4:w4.cell? (Pw wr 1)=some (Jq m.2):=(by first|(simpa using X4.out.cell_new 1)|(rw[hx4.cell (by simp)];simp));clear yH hx4;refine hK.out _ _ ⟨r0,r1,r2,r3,r4⟩ (fun yH=>?_)
     try simp only[Act.put,l1,l2,l3]
     refine qaJ 15 59 ?_;refine wpAnyH_ready (rs:=[18]) (by kernel_rfl) (by simp) ?_;refine AllReadyH.cons (o:=⟨some 62,_,_,_,_,_⟩) rfl (fun K hK=>?_) AllReadyH.nil;go_simp;go_at_call 85;refine(qbi A4 c4 lxs m.1 _ HR4.out hxl _ HH.out).mono ?_;rintro e w5 ⟨rfl,hw5⟩;subst hw5;clear yH;refine hK.out _ _ ⟨r0,r1,r2,r3,r4⟩ (fun yH=>?_)
     try simp only[Act.put,l1,l2,l3]
     refine qaJ 19 63 ?_;refine qaJ 20 64 ?_;refine qaJ 21 65 ?_;refine wpAnyH_take (i:=22) (oi:=⟨some 66,_,_,_,_,_⟩) (v:=undef) rfl (by kernel_rfl) (by kernel_rfl) (by kernel_rfl) (fun _ _ _ h=>h) (Or.inr ⟨by rfl,rfl⟩) (by assumption) ?_
     try simp only[Act.put,l1,l2,l3]
     refine wpAnyH_take (i:=23) (oi:=⟨some 67,_,_,_,_,_⟩) (v:=undef) rfl (by kernel_rfl) (by kernel_rfl) (by kernel_rfl) (fun _ _ _ h=>h) (Or.inr ⟨by rfl,rfl⟩) (by assumption) ?_
     try simp only[Act.put,l1,l2,l3]
     refine wpAnyH_take (i:=24) (oi:=⟨some 68,_,_,_,_,_⟩) (v:=undef) rfl (by kernel_rfl) (by kernel_rfl) (by kernel_rfl) (fun _ _ _ h=>h) (Or.inr ⟨by rfl,rfl⟩) (by assumption) ?_
     try simp only[Act.put,l1,l2,l3]
     refine qaJ 25 69 ?_;refine qaJ 26 70 ?_;refine wpAnyH_take (i:=27) (oi:=⟨some 71,_,_,_,_,_⟩) (v:=undef) rfl (by kernel_rfl) (by kernel_rfl) (by kernel_rfl) (fun _ _ _ h=>h) (Or.inr ⟨by rfl,rfl⟩) (by assumption) ?_
     try simp only[Act.put,l1,l2,l3]
     refine wpAnyH_take (i:=28) (oi:=⟨some 72,_,_,_,_,_⟩) (v:=undef) rfl (by kernel_rfl) (by kernel_rfl) (by kernel_rfl) (fun _ _ _ h=>h) (Or.inr ⟨by rfl,rfl⟩) (by assumption) ?_
     try simp only[Act.put,l1,l2,l3]
     refine wpAnyH_take (i:=29) (oi:=⟨some 73,_,_,_,_,_⟩) (v:=undef) rfl (by kernel_rfl) (by kernel_rfl) (by kernel_rfl) (fun _ _ _ h=>h) (Or.inr ⟨by rfl,rfl⟩) (by assumption) ?_
     try simp only[Act.put,l1,l2,l3]
     refine wpAnyH_take (i:=30) (oi:=⟨some 74,_,_,_,_,_⟩) (v:=undef) rfl (by kernel_rfl) (by kernel_rfl) (by kernel_rfl) (fun _ _ _ h=>h) (Or.inr ⟨by rfl,rfl⟩) (by assumption) ?_
     try simp only[Act.put,l1,l2,l3]
     refine wpAnyH_take (i:=31) (oi:=⟨some 75,_,_,_,_,_⟩) (v:=undef) rfl (by kernel_rfl) (by kernel_rfl) (by kernel_rfl) (fun _ _ _ h=>h) (Or.inr ⟨by rfl,rfl⟩) (by assumption) ?_
     try simp only[Act.put,l1,l2,l3]
     refine wpAnyH_take (i:=32) (oi:=⟨some 76,_,_,_,_,_⟩) (v:=undef) rfl (by kernel_rfl) (by kernel_rfl) (by kernel_rfl) (fun _ _ _ h=>h) (Or.inr ⟨by rfl,rfl⟩) (by assumption) ?_
     try simp only[Act.put,l1,l2,l3]
     refine qaJ 33 77 ?_;refine wpAnyH_done (by kernel_rfl) ?_ _;go_wp2;go_ret;exact⟨qae (qpN hlt HE.out (by rw[HOK.out,HH.out];simp)),H0.out.trans X4.out⟩
    have HH:=hJ h3;clear h3;by_cases h4:m.2<0
    ·have h4':decide (m.2<0)=true:=decide_eq_true h4;have H4:=hJ h4;clear h4;go_wp2;refine wp_region_held_drew (S:=fun w'=>w'.cell? (Pw w 0)=some (Jq b.self)∧w'.cell? (Pw w 1)=some (.slice b.Av b.vs.length b.cv)∧w'.cell? (Pw w 3)=some (.slice b.Al b.log.length b.cl)∧w'.cell? (Pw wr 0)=some (Jq m.1)∧w'.cell? (Pw wr 1)=some (Jq m.2)) (by kernel_rfl) ⟨s0,s1,s2,s3,s4⟩ (fun yH=>?_);refine qaJ 0 44 ?_;refine qaJ 1 45 ?_;refine qaJ 2 46 ?_;refine qaJ 3 47 ?_;refine qaJ 4 48 ?_;refine qaJ 5 49 ?_;refine qaJ 6 50 ?_;refine qaJ 7 51 ?_;refine qaJ 8 52 ?_;refine qaJ 9 53 ?_;refine qaJ 10 54 ?_;refine qaJ 11 55 ?_;refine qaJ 12 56 ?_;refine qaJ 13 57 ?_;refine qaJ 16 60 ?_;refine qaJ 17 61 ?_;refine wpAnyH_ready (rs:=[14]) (by kernel_rfl) (by simp) ?_;refine AllReadyH.cons (o:=⟨some 58,_,_,_,_,_⟩) rfl (fun K hK=>?_) AllReadyH.nil;go_simp;go_at_call 49;refine(qef b.Av b.cv b.vs _ RV.out hp hn ln lxs HL.out).mono ?_;rintro e w4 ⟨A4,c4,rfl,_,_,HR4,hx4⟩;have X4:=hJ ((X3.out.drew).trans hx4);have r0:w4.cell? (Pw w 0)=some (Jq b.self):=(by first|(simpa using X4.out.cell_new 0)|(rw[hx4.cell (by simp)];simp));have r1:w4.cell? (Pw w 1)=some (.slice b.Av b.vs.length b.cv):=(by first|(simpa using X4.out.cell_new 1)|(rw[hx4.cell (by simp)];simp));have r2:w4.cell? (Pw w 3)=some (.slice b.Al b.log.length b.cl):=(by first|(simpa using X4.out.cell_new 3)|(rw[hx4.cell (by simp)];simp));have r3:w4.cell? (Pw wr 0)=some (Jq m.1):=(by first|(simpa using X4.out.cell_new 0)|(rw[hx4.cell (by simp)];simp));have r4:w4.cell? (Pw wr 1)=some (Jq m.2):=(by first|(simpa using X4.out.cell_new 1)|(rw[hx4.cell (by simp)];simp));clear yH hx4;refine hK.out _ _ ⟨r0,r1,r2,r3,r4⟩ (fun yH=>?_)
     try simp only[Act.put,l1,l2,l3]
     refine qaJ 15 59 ?_;refine wpAnyH_ready (rs:=[18]) (by kernel_rfl) (by simp) ?_;refine AllReadyH.cons (o:=⟨some 62,_,_,_,_,_⟩) rfl (fun K hK=>?_) AllReadyH.nil;go_simp;go_at_call 85;refine(qbi A4 c4 lxs m.1 _ HR4.out hxl _ HH.out).mono ?_;rintro e w5 ⟨rfl,hw5⟩;subst hw5;clear yH;refine hK.out _ _ ⟨r0,r1,r2,r3,r4⟩ (fun yH=>?_)
     try simp only[Act.put,l1,l2,l3]
     refine qaJ 19 63 ?_;refine qaJ 20 64 ?_;refine qaJ 21 65 ?_;refine qaJ 22 66 ?_;refine qaJ 23 67 ?_;refine qaJ 24 68 ?_;refine qaJ 25 69 ?_;refine qaJ 26 70 ?_;refine wpAnyH_take (i:=27) (oi:=⟨some 71,_,_,_,_,_⟩) (v:=undef) rfl (by kernel_rfl) (by kernel_rfl) (by kernel_rfl) (fun _ _ _ h=>h) (Or.inr ⟨by rfl,rfl⟩) (by assumption) ?_
     try simp only[Act.put,l1,l2,l3]
     refine wpAnyH_take (i:=28) (oi:=⟨some 72,_,_,_,_,_⟩) (v:=undef) rfl (by kernel_rfl) (by kernel_rfl) (by kernel_rfl) (fun _ _ _ h=>h) (Or.inr ⟨by rfl,rfl⟩) (by assumption) ?_
     try simp only[Act.put,l1,l2,l3]
     refine wpAnyH_take (i:=29) (oi:=⟨some 73,_,_,_,_,_⟩) (v:=undef) rfl (by kernel_rfl) (by kernel_rfl) (by kernel_rfl) (fun _ _ _ h=>h) (Or.inr ⟨by rfl,rfl⟩) (by assumption) ?_
     try simp only[Act.put,l1,l2,l3]
     refine wpAnyH_take (i:=30) (oi:=⟨some 74,_,_,_,_,_⟩) (v:=undef) rfl (by kernel_rfl) (by kernel_rfl) (by kernel_rfl) (fun _ _ _ h=>h) (Or.inr ⟨by rfl,rfl⟩) (by assumption) ?_
     try simp only[Act.put,l1,l2,l3]
     refine wpAnyH_take (i:=31) (oi:=⟨some 75,_,_,_,_,_⟩) (v:=undef) rfl (by kernel_rfl) (by kernel_rfl) (by kernel_rfl) (fun _ _ _ h=>h) (Or.inr ⟨by rfl,rfl⟩) (by assumption) ?_
     try simp only[Act.put,l1,l2,l3]
     refine wpAnyH_take (i:=32) (oi:=⟨some 76,_,_,_,_,_⟩) (v:=undef) rfl (by kernel_rfl) (by kernel_rfl) (by kernel_rfl) (fun _ _ _ h=>h) (Or.inr ⟨by rfl,rfl⟩) (by assumption) ?_
     try simp only[Act.put,l1,l2,l3]
     refine qaJ 33 77 ?_;refine wpAnyH_done (by kernel_rfl) ?_ _;go_wp2;go_ret;exact⟨qae (qpN hlt HE.out (by rw[HOK.out,decide_eq_false (p:=0≤m.2) (by have:=H4.out;omega)];simp)),H0.out.trans X4.out⟩
    have h4':decide (m.2<0)=false:=decide_eq_false h4;have H4:=hJ h4;clear h4;by_cases h5:(b.log.length:Int)<m.2
    ·have h5':decide ((b.log.length:Int)<m.2)=true:=decide_eq_true h5;have H5:=hJ h5;clear h5;go_wp2;go_region_held3 (fun w'=>w'.cell? (Pw w 0)=some (Jq b.self)∧w'.cell? (Pw w 1)=some (.slice b.Av b.vs.length b.cv)∧w'.cell? (Pw w 3)=some (.slice b.Al b.log.length b.cl)∧w'.cell? (Pw wr 0)=some (Jq m.1)∧w'.cell? (Pw wr 1)=some (Jq m.2))
      (first|exact⟨s0,s1,s2,s3,s4⟩|exact⟨r0,r1,r2,r3,r4⟩)
      (first
       | (go_at_call 49;(with_reducible refine(qef b.Av b.cv b.vs _ (by exact RV.out) hp hn ln lxs (by exact HL.out)).mono ?_);rintro e w4 ⟨A4,c4,rfl,_,_,HR4,hx4⟩;have X4:=hJ (Ext.trans (X3.out.drew) hx4);have r0:w4.cell? ⟨w.heap.size,0,none⟩=some (.int .i64 b.self):=(by first|(simpa using X4.out.cell_new 0)|(rw[hx4.cell (by simp)];simp));have r1:w4.cell? ⟨w.heap.size,1,none⟩=some (.slice b.Av b.vs.length b.cv):=(by first|(simpa using X4.out.cell_new 1)|(rw[hx4.cell (by simp)];simp));have r2:w4.cell? ⟨w.heap.size,3,none⟩=some (.slice b.Al b.log.length b.cl):=(by first|(simpa using X4.out.cell_new 3)|(rw[hx4.cell (by simp)];simp));have r3:w4.cell? ⟨wr.heap.size,0,none⟩=some (.int .i64 m.1):=(by first|(simpa using X4.out.cell_new 0)|(rw[hx4.cell (by simp)];simp));have r4:w4.cell? ⟨wr.heap.size,1,none⟩=some (.int .i64 m.2):=(by first|(simpa using X4.out.cell_new 1)|(rw[hx4.cell (by simp)];simp));clear hx4)
       | (go_at_call 85;(with_reducible refine(qbi A4 c4 lxs m.1 _ (by exact HR4.out) hxl _ (by exact HH.out)).mono ?_);rintro e w5 ⟨rfl,rfl⟩))
     go_wp2;go_ret;exact⟨qae (qpN hlt HE.out (by rw[HOK.out,decide_eq_false (p:=m.2≤(b.log.length:Int)) (by have:=H5.out;omega)];simp)),H0.out.trans X4.out⟩
    ·have h5':decide ((b.log.length:Int)<m.2)=false:=decide_eq_false h5;have H5:=hJ h5;clear h5;go_wp2;go_region_held3 (fun w'=>w'.cell? (Pw w 0)=some (Jq b.self)∧w'.cell? (Pw w 1)=some (.slice b.Av b.vs.length b.cv)∧w'.cell? (Pw w 3)=some (.slice b.Al b.log.length b.cl)∧w'.cell? (Pw wr 0)=some (Jq m.1)∧w'.cell? (Pw wr 1)=some (Jq m.2))
      (first|exact⟨s0,s1,s2,s3,s4⟩|exact⟨r0,r1,r2,r3,r4⟩)
      (first
       | (go_at_call 49;(with_reducible refine(qef b.Av b.cv b.vs _ (by exact RV.out) hp hn ln lxs (by exact HL.out)).mono ?_);rintro e w4 ⟨A4,c4,rfl,_,_,HR4,hx4⟩;have X4:=hJ (Ext.trans (X3.out.drew) hx4);have r0:w4.cell? ⟨w.heap.size,0,none⟩=some (.int .i64 b.self):=(by first|(simpa using X4.out.cell_new 0)|(rw[hx4.cell (by simp)];simp));have r1:w4.cell? ⟨w.heap.size,1,none⟩=some (.slice b.Av b.vs.length b.cv):=(by first|(simpa using X4.out.cell_new 1)|(rw[hx4.cell (by simp)];simp));have r2:w4.cell? ⟨w.heap.size,3,none⟩=some (.slice b.Al b.log.length b.cl):=(by first|(simpa using X4.out.cell_new 3)|(rw[hx4.cell (by simp)];simp));have r3:w4.cell? ⟨wr.heap.size,0,none⟩=some (.int .i64 m.1):=(by first|(simpa using X4.out.cell_new 0)|(rw[hx4.cell (by simp)];simp));have r4:w4.cell? ⟨wr.heap.size,1,none⟩=some (.int .i64 m.2):=(by first|(simpa using X4.out.cell_new 1)|(rw[hx4.cell (by simp)];simp));clear hx4)
       | (go_at_call 85;(with_reducible refine(qbi A4 c4 lxs m.1 _ (by exact HR4.out) hxl _ (by exact HH.out)).mono ?_);rintro e w5 ⟨rfl,rfl⟩))
     go_wp2;go_roundw
     case rel=>exact⟨k+1,by omega,by go_num,by rw[HN.out],hJ (qms HT.out (by rw[HOK.out,decide_eq_true H1.out,decide_eq_true (p:=m.1≠b.self) H2.out,HH.out,decide_eq_true (p:=0≤m.2) (by have:=H4.out;omega),decide_eq_true (p:=m.2≤(b.log.length:Int)) (by have:=H5.out;omega)];rfl)),X4.out⟩
     case measure=>simp[intOf]<;>omega
   ·have HMK:=hJ (qpp (n:=b.st.marks.length) (p:=qbA b.st) (fun j hj=>HT.out j (by have:b.st.marks.length=b.marks.length:=rfl;omega)));obtain⟨wo,rfl⟩:∃x,x=wr:=⟨wr,rfl⟩;go_wp2;go_loopw [3,84] (fun bf i wr=>∃k:Nat,k≤b.fls.length∧i=Jq k∧bf=Jq (qrR b.st.fls k)∧Hid (∀j,j<k→qdH b.st j=true)∧Ext (w.alloc (.cells (b.cells2 Am Af) 28)) wr) (fun _ i _=>b.fls.length - (intOf i).toNat)
    case atStart=>exact⟨0,zO _,rfl,rfl,hJ (fun j hj=>absurd hj (Nat.not_lt_zero _)),HS.out⟩
    case round=>
     obtain⟨k2,hk2,rfl,rfl,HT2,HS2⟩:=hrel;have HQ:=hJ HS2;clear HS2;obtain⟨t0,t1,t2,t3,t4,t5,t6,t7,t8,zt⟩:=qhN HQ.out;have hfz:b.st.fls.length=b.fls.length:=by show (b.fls.map FlM.v).length=_;rw[zP]
     by_cases hlt2:k2<b.fls.length
     ·obtain⟨bb,off,f,rfl,hb,c0,c1,c2,HFR,HF⟩:=qie (show flE.Box wr Af b.fls by rw[←HAf.out];exact(HR.out.ext HQ.out).fls) hlt2;have hst:b.st.fls[k2]?=some f.v:=by show (b.fls.map FlM.v)[k2]?=_;rw[zM,HF.out];rfl
      have HN:=hJ (qp1 hst);have HOK:Hid (qdH b.st k2=(decide (qrR b.st.fls k2<f.m)&&(qcl f.m&&qbL (vws b.vs) f.v))):=hJ (by rw[quq hst];rfl);have hff:=HFT.out.fl f (zX HF.out);have hfg:f.log.length≤1000000000:=by have:=hff.1;omega
      have HFP:=hJ hff.2;clear hst hff;have X3:=hJ (Ext.new wr (.cells #[Jq f.m,Jq f.b,.slice f.A f.log.length f.c] 80));generalize qrR b.st.fls k2=bf at *;by_cases h1:bf<f.m;rotate_left
      ·have h1':decide (f.m≤bf)=true:=decide_eq_true (by omega);have H1:=hJ h1;clear h1;go_wp2;go_ret;exact⟨qae (qsr hlt2 HE.out HMK.out (by rw[HOK.out,decide_eq_false (Int.not_lt.2 H1.out)];rfl)),H0.out.trans (HQ.out.trans X3.out)⟩
      have H1:=hJ h1;have h1':decide (f.m≤bf)=false:=decide_eq_false (by omega);clear h1;go_wp2_with fail;refine(qcM f.m _).mono ?_;cases hid:qcl f.m
      ·have HD:=hJ hid;clear hid;rintro r w4 ⟨rfl,rfl⟩;go_wp2;go_ret;exact⟨qae (qsr hlt2 HE.out HMK.out (by rw[HOK.out,HD.out];simp)),H0.out.trans (HQ.out.trans X3.out)⟩
      have HD:=hJ hid;clear hid;rintro r w4 ⟨rfl,rfl⟩;go_wp2_with fail;refine(qgY b.Av b.cv b.vs f _ (HR.out.ext (HQ.out.trans X3.out)).vs (HFR.out.ext X3.out) hn HFT.out.vx hfg HFP.out).mono ?_;cases hps:qbL (vws b.vs) f.v
      ·have HP:=hJ hps;clear hps;rintro r w5 ⟨rfl,hx5⟩;have X5:=hJ (HQ.out.trans (X3.out.trans hx5));clear hx5;go_wp2;go_ret;exact⟨qae (qsr hlt2 HE.out HMK.out (by rw[HOK.out,HP.out];simp)),H0.out.trans X5.out⟩
      ·have HP:=hJ hps;clear hps;rintro r w5 ⟨rfl,hx5⟩;have X5:=hJ (HQ.out.trans (X3.out.trans hx5));have u0:w5.cell? (Pw wr 0)=some (Jq f.m):=by rw[hx5.cell (by simp)];simp
       clear hx5;go_wp2;go_roundw
       case rel=>exact⟨k2+1,by omega,by go_num,by rw[HN.out];rfl,hJ (qms HT2.out (by rw[HOK.out,decide_eq_true H1.out,HD.out,HP.out];rfl)),X5.out⟩
       case measure=>simp[intOf]<;>omega
     ·go_wp2;go_ret;exact⟨qae (qu8 HE.out HMK.out (fun j hj=>HT2.out j (by omega))),H0.out.trans HQ.out⟩
theorem qir(b:BM)(w:World)(h:b.Reads w)(hp:0<b.vs.length)(hf:b.Fits) :
  Calls Tryz.prog 92 #[.agg b.cells] w fun e w'=>e=.returned (.bool (qcx b.st))∧Ext w w':=qiw b b.Am b.Af w rfl rfl h hp hf
def qe1(l p:List Ent):Bool:=decide (p.length≤l.length)&&qe2 (l.take p.length) p
theorem Row.take_ents{w:World}{A:Option Addr}{l:List Ent}(h:Row w A (qaH.cells l))(n:Nat):Row w A (qaH.cells (l.take n)):=by
 intro hne;have hl:qaH.cells l=qaH.cells (l.take n)++qaH.cells (l.drop n):=by rw[←qaH.cells_append,List.take_append_drop]
 obtain⟨b,off,h1,h2,h3⟩:=h (by rw[hl];simp[hne]);refine⟨b,off,h1,h2,fun j u hj=>h3 j u ?_⟩;rw[hl,List.getElem?_append_left (zZ hj).1];exact hj
theorem qrm(A A':Option Addr)(n c c':Nat)(xs ys:List Ent)(w:World)(hl:n=xs.length)(h:Row w A (qaH.cells xs))(h':Row w A' (qaH.cells ys))(hn:xs.length≤1000000000) :
  Calls Tryz.prog 179 #[.slice A n c,.slice A' ys.length c'] w fun e w'=>e=.returned (.bool (qe2 xs ys))∧Still w w':=by
 subst hl;exact qi3 A A' c c' xs ys w h h' hn
theorem qmQ(A A':Option Addr)(c c':Nat)(l p:List Ent)(w:World)(h:Row w A (qaH.cells l))(h':Row w A' (qaH.cells p))(hn:l.length≤1000000000)(hc:l.length≤c) :
  Calls Tryz.prog 130 #[.slice A l.length c,.slice A' p.length c'] w fun e w'=>e=.returned (.bool (qe1 l p))∧Ext w w':=by
 have H:=hJ (h.take_ents p.length);have H':=hJ h';clear h h';by_cases hle:p.length≤l.length
 ·have HL:=hJ hle;have hle1:decide ((p.length:Int)≤(l.length:Int))=true:=decide_eq_true (by omega);have k1:(0:Int)≤(p.length:Int):=by omega
  have k2:(p.length:Int)≤(c:Int):=by omega
  have k3:p.length≤c:=by omega
  have hlt:(l.take p.length).length=p.length:=by rw[zT];omega
  have HT:=hJ hlt;clear hle hlt;go_enter Tryz.func130,Tryz.ntmps130;go_wp2_with fail;refine(qrm A A' p.length c c' (l.take p.length) p _ HT.out.symm H.out H'.out (by rw[HT.out];omega)).mono ?_;rintro e w1 ⟨rfl,hs1⟩;have X1:=hJ hs1.ext;clear hs1;go_wp2;go_ret;exact⟨qae (by rw[qe1,decide_eq_true HL.out];rfl),X1.out⟩
 ·have HL:=hJ hle;have hle1:decide ((p.length:Int)≤(l.length:Int))=false:=decide_eq_false (by omega);clear hle;go_enter Tryz.func130,Tryz.ntmps130;go_wp2;go_ret;exact⟨qae (by rw[qe1,decide_eq_false HL.out];rfl),Ext.refl _⟩
end Go.Proofs.YtponbabbabnaeaaGreat
