/- Part 5 of the proof: contracts of functions that the statement reaches. Conditions: as each theorem says. -/
import Derived.Test.YtponbabbabnaeaaGreatQe01
import Derived.Test.YtponbabbabnaeaaGreatQe04
set_option maxRecDepth 100000
namespace Go.Proofs.YtponbabbabnaeaaGreat
open Go.RowKit
structure BM where
 self:Int
 base:Int
 stable:Int
 sent:Int
 Av:Option Addr
 cv:Nat
 vs:List VwM
 Al:Option Addr
 cl:Nat
 log:List Ent
 Ap:Option Addr
 cp:Nat
 pend:List (List UInt8)
 Am:Option Addr
 cm:Nat
 marks:List (Int×Int)
 Af:Option Addr
 cf:Nat
 fls:List FlM
def BM.st(b:BM):St:=⟨b.self,vws b.vs,b.base,b.log,b.stable,b.sent,b.pend,b.marks,b.fls.map FlM.v⟩
abbrev BM.cells(b:BM):Array Value:=#[.int .i64 b.self,.slice b.Av b.vs.length b.cv,.int .i64 b.base,.slice b.Al b.log.length b.cl,.int .i64 b.stable,.int .i64 b.sent,.slice b.Ap b.pend.length b.cp,.slice b.Am b.marks.length b.cm,.slice b.Af b.fls.length b.cf]
structure BM.Reads(w:World)(b:BM):Prop where
 vs:qas.Box w b.Av b.vs
 log:Row w b.Al (qaz.cells b.log)
 pend:Row w b.Ap (qda.cells b.pend)
 marks:Row w b.Am (qao.cells b.marks)
 fls:flE.Box w b.Af b.fls
theorem BM.Reads.ext{w w':World}{b:BM}(h:b.Reads w)(e:Ext w w'):b.Reads w':=⟨h.vs.ext e,h.log.ext e,h.pend.ext e,h.marks.ext e,h.fls.ext e⟩
structure BM.Fits(b:BM):Prop where
 vs:b.vs.length≤100000
 vx:∀v∈b.vs,v.xs.length≤1000000
 log:b.log.length≤100000
 lp:∀e∈b.log,e.p.length≤1000000
 pend:b.pend.length≤100000
 pp:∀p∈b.pend,p.length≤1000000
 marks:b.marks.length≤100000
 fls:b.fls.length≤100000
 fl:∀f∈b.fls,f.log.length≤100000∧∀e∈f.log,e.p.length≤1000000
 cl:b.log.length≤b.cl∧b.cl≤maxLen
theorem qe9{l:List VwM}{m:Nat}(h:∀v∈l,v.xs.length≤m):(qaf (vws l)).2.length≤m:=by
 unfold qaf qbB
 cases hi:(vws l)[(vws l).length - 1]? with
 | none=>simp
 | some v=>
  obtain⟨u,hu,rfl⟩:=List.mem_map.1 (List.mem_of_getElem? hi)
  exact h u hu
theorem qeF(n:Int)(A:Option Addr)(k c:Nat)(w:World):(Instr.field 46 (.agg #[Jq n,.slice A k c]) 0).run Tryz.prog w=.ok (Jq n) w:=by
 simp[Instr.field,asAgg,go_sem]
theorem qdj(A:Option Addr)(c:Nat)(l:List VwM)(w:World)(h:qas.Box w A l)(hp:0<l.length)(hn:l.length≤1000000000)(n:Int)(xs:List Int)(hr:qaf (vws l)=(n,xs)) :
  Calls Tryz.prog 49 #[.slice A l.length c] w fun e w'=>∃A c,e=.returned (.agg #[Jq n,.slice A xs.length c])∧xs.length≤c∧c≤maxLen∧Hid (Row w' A (qam xs))∧Ext w w':=by
 have:=qpK A c l w h hp hn
 rw[hr] at this
 exact this
theorem qbw(n:Int)(A:Option Addr)(c:Nat)(xs:List Int)(w:World)(h:Row w A (qam xs))(hn:xs.length≤9223372036854775807)(s:Int)(hs:qbl (n,xs)=s) :
  Calls Tryz.prog 51 #[.agg #[Jq n,.slice A xs.length c]] w fun e w'=>e=.returned (Jq s)∧Ext w w':=by
 subst hs;exact qis n A c xs w h hn
theorem qde(b:BM)(w:World)(h:b.Reads w)(hp:0<b.vs.length)(hf:b.Fits) :
  Calls Tryz.prog 40 #[.agg b.cells] w fun e w'=>e=.returned (.bool (qaL b.st))∧Ext w w':=by
 have H0:=hJ (Ext.new w (.cells b.cells 28))
 have HV:=hJ (h.vs.ext H0.out.drew)
 have hn:b.vs.length≤1000000000:=by have:=hf.vs;omega
 obtain⟨⟨n,xs⟩,hl⟩:∃v,qaf (vws b.vs)=v:=⟨_,rfl⟩
 have HL:=hJ hl
 have HO:Hid (qaL b.st=decide (b.base=n)):=hJ (by show decide (b.base=(qaf (vws b.vs)).1)=_;rw[hl])
 clear h hf hl;unfold BM.cells at H0 HV⊢
 have hfd:=qeF
 go_enter Tryz.func40,Tryz.ntmps40
 go_wp2;go_region_held3 (fun w'=>w'.cell? (Pw w 1)=some (.slice b.Av b.vs.length b.cv)∧w'.cell? (Pw w 2)=some (Jq b.base))
  (first|exact⟨r0,r1⟩|(go_keep;done))
  (first
   | (go_at_call 49;(with_reducible refine(qdj b.Av b.cv b.vs _ (by exact HV.out) hp hn n xs (by exact HL.out)).mono ?_);rintro e v1 ⟨A1,c1,rfl,_,_,_,hx1⟩;have X1:=hJ (Ext.trans H0.out.drew hx1);have r0:v1.cell? ⟨w.heap.size,1,none⟩=some (.slice b.Av b.vs.length b.cv):=(by rw[hx1.cell (by simp)];simp);have r1:v1.cell? ⟨w.heap.size,2,none⟩=some (.int .i64 b.base):=(by rw[hx1.cell (by simp)];simp);clear hx1))
 go_wp2;go_ret
 exact⟨qae (by rw[HO.out,Bool.eq_iff_iff];simp),X1.out⟩
theorem qcU(b:BM)(w:World)(h:b.Reads w)(hp:0<b.vs.length)(hf:b.Fits) :
  Calls Tryz.prog 41 #[.agg b.cells] w fun e w'=>e=.returned (.bool (qaN b.st))∧Ext w w':=by
 have H0:=hJ (Ext.new w (.cells b.cells 28))
 have HV:=hJ (h.vs.ext H0.out.drew)
 have hn:b.vs.length≤1000000000:=by have:=hf.vs;omega
 have hxl:=qe9 hf.vx
 obtain⟨⟨n,xs⟩,hl⟩:∃v,qaf (vws b.vs)=v:=⟨_,rfl⟩
 have HL:=hJ hl
 obtain⟨sq,hsq⟩:∃s,qbl (n,xs)=s:=⟨_,rfl⟩
 have HQ:=hJ hsq
 have HO:Hid (qaN b.st=decide (sq=b.self)):=hJ (by show decide (qbl (qaf (vws b.vs))=b.self)=_;rw[hl,hsq])
 rw[hl] at hxl
 have hxl':xs.length≤9223372036854775807:=by simp only at hxl;omega
 clear h hf hl hsq hxl;unfold BM.cells at H0 HV⊢
 go_enter Tryz.func41,Tryz.ntmps41
 go_wp2;go_region_held3 (fun w'=>w'.cell? (Pw w 1)=some (.slice b.Av b.vs.length b.cv)∧w'.cell? (Pw w 0)=some (Jq b.self))
  (first|exact⟨r0,r1⟩|exact⟨t0,t1⟩|(go_keep;done))
  (first
   | (go_at_call 49;(with_reducible refine(qdj b.Av b.cv b.vs _ (by exact HV.out) hp hn n xs (by exact HL.out)).mono ?_);rintro e v1 ⟨A1,c1,rfl,_,_,HR1,hx1⟩;have X1:=hJ (Ext.trans H0.out.drew hx1);have y1:w.heap.size<v1.heap.size:=(by have:=hx1.size;simp at this;omega);have r0:v1.cell? ⟨w.heap.size,1,none⟩=some (.slice b.Av b.vs.length b.cv):=(by rw[hx1.cell (by simp)];simp);have r1:v1.cell? ⟨w.heap.size,0,none⟩=some (.int .i64 b.self):=(by rw[hx1.cell (by simp)];simp);clear hx1)
   | (go_at_call 51;(with_reducible refine(qbw n A1 c1 xs _ (by exact HR1.out) hxl' sq (by exact HQ.out)).mono ?_);rintro e v2 ⟨rfl,hx2⟩;have X2:=hJ (Ext.trans X1.out hx2);have t0:v2.cell? ⟨w.heap.size,1,none⟩=some (.slice b.Av b.vs.length b.cv):=(by rw[hx2.cell (by exact y1)];exact r0);have t1:v2.cell? ⟨w.heap.size,0,none⟩=some (.int .i64 b.self):=(by rw[hx2.cell (by exact y1)];exact r1);clear hx2))
 go_wp2;go_ret
 exact⟨qae (by rw[HO.out,Bool.eq_iff_iff];simp),X2.out⟩
end Go.Proofs.YtponbabbabnaeaaGreat
namespace Go.Proofs.YtponbabbabnaeaaGreat
section
variable {P : Program} {ops : Array Oper} {Q : Exit → Act → World → Prop} {md : Region.Mode} {S : World → Prop}
theorem qaC (i d : Nat) {oi : Oper} {v : Value} {fuel : Nat} {listed : Array Bool} {a a' : Act} {w : World} (h : wpAnyH P md ops Q S fuel (listed.setIfInBounds i true) a' w)
    (hi : ops[i]? = some oi := by rfl) (hd : oi.dst = some d := by rfl) (hs : Region.noSelect ops = true := by kernel_rfl) (hf : Region.free md ops listed i = true := by kernel_rfl) (hr : (Region.ready md ops listed).contains i = true := by kernel_rfl)
    (hy : ∀ w9, S w9 → (execOp a.eval oi).run P w9 = .ok (.value v) w9 := by intro w9 hSw; (try dsimp only at hSw); go_simp <;> with_reducible rfl)
    (ha : a.put (some d) v = a' := by simp only [Act.put, l1, l2, l3] <;> rfl) (hQ : ∀ c a w, Q (.panic c) (a.put oi.dst v) w → Q (.panic c) a w := by exact fun _ _ _ h => h)
    (hw : Region.wanted oi (yielded ops a.tmps) = true := by rfl) (hS : S w := by assumption) : wpAnyH P md ops Q S (fuel + 1) listed a w := by
  subst ha; rw [← hd] at h; exact wpAnyH_take hi hs hf hr hQ (Or.inl ⟨hw, hy⟩) hS h
end
end Go.Proofs.YtponbabbabnaeaaGreat
namespace Go.Proofs.YtponbabbabnaeaaGreat
open Go.RowKit
theorem qod{vs:List Vw}{f:Fls}(hb:f.2.1≠-1)(h:qaA vs f.2.1=none):qbL vs f=false:=by unfold qbL;rw[if_neg hb,h];rfl
theorem qmL{vs:List Vw}{f:Fls}{v:Vw}(hb:f.2.1≠-1)(h:qaA vs f.2.1=some v)(hl:¬f.2.1<(qaf vs).1):qbL vs f=false:=by unfold qbL;rw[if_neg hb,h];simp only[decide_eq_false hl,Bool.false_and]
theorem qqh{vs:List Vw}{f:Fls}{v:Vw}(hb:f.2.1≠-1)(h:qaA vs f.2.1=some v)(hw:qbr v.2 f.1=false):qbL vs f=false:=by unfold qbL;rw[if_neg hb,h];simp only[hw,Bool.and_false,Bool.false_and]
theorem qpy{vs:List Vw}{f:Fls}{v:Vw}(hb:f.2.1≠-1)(h:qaA vs f.2.1=some v)(hl:f.2.1<(qaf vs).1)(hw:qbr v.2 f.1=true):qbL vs f=qaX f.2.2 f.2.1:=by unfold qbL;rw[if_neg hb,h];simp only[decide_eq_true hl,hw,Bool.and_self,Bool.true_and]
theorem qrM{vs:List Vw}{f:Fls}(hb:f.2.1 = -1):qbL vs f=qaX f.2.2 f.2.1:=by unfold qbL;rw[if_pos hb,Bool.true_and]
theorem qa6(A:Option Addr)(c:Nat)(xs:List Int)(id:Int)(w:World)(h:Row w A (qam xs))(hn:xs.length≤9223372036854775807)(b:Bool)(hb:qbr xs id=b) :
  Calls Tryz.prog 85 #[.slice A xs.length c,Jq id] w fun e w'=>e=.returned (.bool b)∧w'=w:=by
 subst hb;exact(qbH A c xs id w h hn).mono fun e w' h=>⟨h.1,h.2.symm⟩
theorem qm8{vs:List Vw}{n:Int}{v:Vw}(h:qaA vs n=some v):0<vs.length:=by
 have:=List.mem_of_find?_eq_some h
 exact List.length_pos_of_mem this
set_option maxHeartbeats 2000000 in
theorem qgb(Av:Option Addr)(cv:Nat)(vs:List VwM)(f:FlM)(w:World)(h:qas.Box w Av vs)(hf:Row w f.A (qaz.cells f.log))(hn:vs.length≤1000000000)(hx:∀v∈vs,v.xs.length≤1000000)
  (hl:f.log.length≤1000000000) (hlp:∀e∈f.log,e.p.length≤1000000) :
  Calls Tryz.prog 145 #[.slice Av vs.length cv,.agg #[Jq f.m,Jq f.b,.slice f.A f.log.length f.c]] w fun e w'=>e=.returned (.bool (qbL (vws vs) f.v))∧Ext w w':=by
 have H0:=hJ (Ext.new w (.cells #[Jq f.m,Jq f.b,.slice f.A f.log.length f.c] 80))
 have HV:=hJ (h.ext H0.out);have HF:=hJ (hf.ext H0.out);have HXX:=hJ hx;have HLP:=hJ hlp
 clear h hf hx hlp;by_cases hb:f.b = -1
 ·have HB:=hJ (qrM (vs:=vws vs) (f:=f.v) hb)
  have hb':(f.b != -1)=false:=by simp[hb]
  clear hb;go_enter Tryz.func145,Tryz.ntmps145
  go_wp2_with fail
  refine(qc4 f.A f.c f.log f.b _ HF.out hl HLP.out).mono ?_
  rintro e w2 ⟨rfl,hx2⟩
  have X2:=hJ (H0.out.trans hx2);clear hx2
  go_wp2;go_ret
  exact⟨qae HB.out.symm,X2.out⟩
 have HB:=hJ hb
 have hb':(f.b != -1)=true:=by simp[hb]
 clear hb;go_enter Tryz.func145,Tryz.ntmps145
 go_wp2_with fail
 refine(qg0 Av cv vs f.b _ HV.out hn).mono ?_
 cases hk:qaA (vws vs) f.b with
 | none=>
  have HK:=hJ (qod (f:=f.v) HB.out hk)
  clear hk;rintro e w1 ⟨A1,c1,rfl,_,_,_,hx1⟩
  have X1:=hJ hx1;clear hx1
  simp only[Option.getD_none,Option.isSome_none,List.length_nil]
  go_wp2;go_quiet (fail)
  go_wp2;go_ret
  exact⟨qae HK.out.symm,H0.out.trans ((X1.out.alloc _).drewN _)⟩
 | some v=>
  obtain⟨vn,xs⟩:=v
  have hp:0<vs.length:=by have:=qm8 hk;rwa [qaI] at this
  have HK:=hJ hk
  have hxl:xs.length≤9223372036854775807:=by
   have:=List.mem_of_find?_eq_some hk
   obtain⟨u,hu,hv⟩:=List.mem_map.1 this
   have:=HXX.out u hu
   have e:u.xs=xs:=by have:=congrArg Prod.snd hv;exact this
   rw[e] at this;omega
  clear hk;rintro e w1 ⟨A1,c1,rfl,_,_,HR1,hx1⟩
  have X1:=hJ hx1;clear hx1
  simp only[Option.getD_some,Option.isSome_some] at HR1⊢
  obtain⟨⟨ln,lxs⟩,hl2⟩:∃v,qaf (vws vs)=v:=⟨_,rfl⟩
  have HL:=hJ hl2;clear hl2
  have hfd:=qeF
  have X3:=hJ (X1.out.alloc (.cells #[Jq vn,.slice A1 xs.length c1] 46))
  have RV:=hJ (HV.out.ext X3.out.drew);have R1:=hJ (HR1.out.ext (Ext.drew (Ext.new _ (.cells #[Jq vn,.slice A1 xs.length c1] 46))))
  have zz:w.heap.size<w1.heap.size:=by have:=X1.out.size;simp at this;omega
  have q0:w1.cell? (Pw w 0)=some (Jq f.m):=by simpa using X1.out.cell_new 0
  have q1:w1.cell? (Pw w 1)=some (Jq f.b):=by simpa using X1.out.cell_new 1
  have q2:w1.cell? (Pw w 2)=some (.slice f.A f.log.length f.c):=by simpa using X1.out.cell_new 2
  have s0:(w1.alloc (.cells #[Jq vn,.slice A1 xs.length c1] 46)).cell? (Pw w 0)=some (Jq f.m):=by simpa using X3.out.cell_new 0
  have s1:(w1.alloc (.cells #[Jq vn,.slice A1 xs.length c1] 46)).cell? (Pw w 1)=some (Jq f.b):=by simpa using X3.out.cell_new 1
  have s2:(w1.alloc (.cells #[Jq vn,.slice A1 xs.length c1] 46)).cell? (Pw w1 1)=some (.slice A1 xs.length c1):=by simp
  by_cases hlt:f.b<ln
  rotate_left
  ·have HLT:=hJ (qmL (f:=f.v) HB.out HK.out (by rw[HL.out];exact hlt))
   have hlt':decide (ln≤f.b)=true:=decide_eq_true (by omega)
   clear hlt;go_wp2;refine wp_region_held_drew (S:=fun w'=>w'.cell? (Pw w 0)=some (Jq f.m)∧w'.cell? (Pw w 1)=some (Jq f.b)∧w'.cell? (Pw w1 1)=some (.slice A1 xs.length c1)) (by kernel_rfl) ⟨s0,s1,s2⟩ (fun hHeld=>?_)
   refine qaC 0 17 ?_
   refine qaC 1 18 ?_
   refine qaC 2 19 ?_
   refine qaC 3 20 ?_
   refine qaC 4 21 ?_
   refine qaC 5 22 ?_
   refine wpAnyH_ready (rs:=[6]) (by kernel_rfl) (by simp) ?_
   refine AllReadyH.cons (o:=⟨some 23,_,_,_,_,_⟩) rfl (fun K hK=>?_) AllReadyH.nil
   go_simp;go_at_call 49;refine(qdj Av cv vs _ RV.out hp hn ln lxs HL.out).mono ?_
   rintro e w4 ⟨A4,c4,rfl,_,_,_,hx4⟩
   have X4:=hJ ((X3.out.drew).trans hx4)
   have r0:w4.cell? (Pw w 0)=some (Jq f.m):=by simpa using X4.out.cell_new 0
   have r1:w4.cell? (Pw w 1)=some (Jq f.b):=by simpa using X4.out.cell_new 1
   have r2:w4.cell? (Pw w1 1)=some (.slice A1 xs.length c1):=by rw[hx4.cell (by simp)];simp
   clear hHeld hx4;refine hK.out _ _ ⟨r0,r1,r2⟩ (fun hHeld=>?_)
   try simp only[Act.put,l1,l2,l3]
   refine qaC 7 24 ?_
   refine qaC 8 25 ?_
   refine qaC 9 26 ?_
   refine qaC 10 27 ?_
   refine wpAnyH_take (i:=11) (oi:=⟨some 28,_,_,_,_,_⟩) (v:=undef) rfl (by kernel_rfl) (by kernel_rfl) (by kernel_rfl) (fun _ _ _ h=>h) (Or.inr ⟨by rfl,rfl⟩) (by assumption) ?_
   try simp only[Act.put,l1,l2,l3]
   refine wpAnyH_take (i:=12) (oi:=⟨some 29,_,_,_,_,_⟩) (v:=undef) rfl (by kernel_rfl) (by kernel_rfl) (by kernel_rfl) (fun _ _ _ h=>h) (Or.inr ⟨by rfl,rfl⟩) (by assumption) ?_
   try simp only[Act.put,l1,l2,l3]
   refine wpAnyH_take (i:=13) (oi:=⟨some 30,_,_,_,_,_⟩) (v:=undef) rfl (by kernel_rfl) (by kernel_rfl) (by kernel_rfl) (fun _ _ _ h=>h) (Or.inr ⟨by rfl,rfl⟩) (by assumption) ?_
   try simp only[Act.put,l1,l2,l3]
   refine wpAnyH_take (i:=14) (oi:=⟨some 31,_,_,_,_,_⟩) (v:=undef) rfl (by kernel_rfl) (by kernel_rfl) (by kernel_rfl) (fun _ _ _ h=>h) (Or.inr ⟨by rfl,rfl⟩) (by assumption) ?_
   try simp only[Act.put,l1,l2,l3]
   refine wpAnyH_take (i:=15) (oi:=⟨some 32,_,_,_,_,_⟩) (v:=undef) rfl (by kernel_rfl) (by kernel_rfl) (by kernel_rfl) (fun _ _ _ h=>h) (Or.inr ⟨by rfl,rfl⟩) (by assumption) ?_
   try simp only[Act.put,l1,l2,l3]
   refine wpAnyH_take (i:=16) (oi:=⟨some 33,_,_,_,_,_⟩) (v:=undef) rfl (by kernel_rfl) (by kernel_rfl) (by kernel_rfl) (fun _ _ _ h=>h) (Or.inr ⟨by rfl,rfl⟩) (by assumption) ?_
   try simp only[Act.put,l1,l2,l3]
   refine qaC 17 34 ?_
   refine wpAnyH_done (by kernel_rfl) ?_ _
   go_wp2;go_ret
   exact⟨qae HLT.out.symm,H0.out.trans X4.out⟩
  have HLT:=hJ (show f.v.2.1<(qaf (vws vs)).1 by rw[HL.out];exact hlt)
  have hlt':decide (ln≤f.b)=false:=decide_eq_false (by omega)
  clear hlt;cases hh:qbr xs f.m
  ·have HH:=hJ (qqh (f:=f.v) HB.out HK.out hh)
   have HHH:=hJ hh
   clear hh;go_wp2;go_region_held3 (fun w'=>w'.cell? (Pw w 0)=some (Jq f.m)∧w'.cell? (Pw w 1)=some (Jq f.b)∧w'.cell? (Pw w1 1)=some (.slice A1 xs.length c1))
    (first|exact⟨s0,s1,s2⟩|exact⟨r0,r1,r2⟩)
    (first
     | (go_at_call 49;(with_reducible refine(qdj Av cv vs _ (by exact RV.out) hp hn ln lxs (by exact HL.out)).mono ?_);rintro e w4 ⟨A4,c4,rfl,_,_,_,hx4⟩;have X4:=hJ (Ext.trans (X3.out.drew) hx4);have R4:=hJ (R1.out.ext hx4);have r0:w4.cell? ⟨w.heap.size,0,none⟩=some (.int .i64 f.m):=(by simpa using X4.out.cell_new 0);have r1:w4.cell? ⟨w.heap.size,1,none⟩=some (.int .i64 f.b):=(by simpa using X4.out.cell_new 1);have r2:w4.cell? ⟨w1.heap.size,1,none⟩=some (.slice A1 xs.length c1):=(by rw[hx4.cell (by simp)];simp);clear hx4)
     | (go_at_call 85;(with_reducible refine(qa6 A1 c1 xs f.m _ (by exact R4.out) hxl _ (by exact HHH.out)).mono ?_);rintro e w5 ⟨rfl,rfl⟩))
   go_wp2;go_ret
   exact⟨qae HH.out.symm,H0.out.trans X4.out⟩
  ·have HH:=hJ (qpy (f:=f.v) HB.out HK.out HLT.out hh)
   have HHH:=hJ hh
   clear hh;go_wp2;go_region_held3 (fun w'=>w'.cell? (Pw w 0)=some (Jq f.m)∧w'.cell? (Pw w 1)=some (Jq f.b)∧w'.cell? (Pw w1 1)=some (.slice A1 xs.length c1))
    (first|exact⟨s0,s1,s2⟩|exact⟨r0,r1,r2⟩)
    (first
     | (go_at_call 49;(with_reducible refine(qdj Av cv vs _ (by exact RV.out) hp hn ln lxs (by exact HL.out)).mono ?_);rintro e w4 ⟨A4,c4,rfl,_,_,_,hx4⟩;have X4:=hJ (Ext.trans (X3.out.drew) hx4);have R4:=hJ (R1.out.ext hx4);have r0:w4.cell? ⟨w.heap.size,0,none⟩=some (.int .i64 f.m):=(by simpa using X4.out.cell_new 0);have r1:w4.cell? ⟨w.heap.size,1,none⟩=some (.int .i64 f.b):=(by simpa using X4.out.cell_new 1);have r2:w4.cell? ⟨w1.heap.size,1,none⟩=some (.slice A1 xs.length c1):=(by rw[hx4.cell (by simp)];simp);clear hx4)
     | (go_at_call 85;(with_reducible refine(qa6 A1 c1 xs f.m _ (by exact R4.out) hxl _ (by exact HHH.out)).mono ?_);rintro e w5 ⟨rfl,rfl⟩))
   have r3:w5.cell? (Pw w 2)=some (.slice f.A f.log.length f.c):=by simpa using X4.out.cell_new 2
   go_wp2_with fail
   refine(qc4 f.A f.c f.log f.b _ (HF.out.ext X4.out) hl HLP.out).mono ?_
   rintro e w6 ⟨rfl,hx5⟩
   have X5:=hJ (X4.out.trans hx5);clear hx5
   go_wp2;go_ret
   exact⟨qae HH.out.symm,H0.out.trans X5.out⟩
end Go.Proofs.YtponbabbabnaeaaGreat
namespace Go.Proofs.YtponbabbabnaeaaGreat
open Go.RowKit
theorem qlm {P : Prop} (h : P := by
 refine⟨?_,?_,?_,?_,?_,?_,?_,?_,?_,?_⟩
 ·simpa using h.cell_new 0
 ·simpa using h.cell_new 1
 ·simpa using h.cell_new 2
 ·simpa using h.cell_new 3
 ·simpa using h.cell_new 4
 ·simpa using h.cell_new 5
 ·simpa using h.cell_new 6
 ·simpa using h.cell_new 7
 ·simpa using h.cell_new 8
 ·have:=h.size;simp at this;omega) : P := h
theorem qk4{w w':World}{b:BM}(h:Ext (w.alloc (.cells b.cells 28)) w') :
  w'.cell? (Pq w.heap.size 0)=some (Jq b.self)∧w'.cell? (Pq w.heap.size 1)=some (.slice b.Av b.vs.length b.cv)∧w'.cell? (Pq w.heap.size 2)=some (Jq b.base)∧w'.cell? (Pq w.heap.size 3)=some (.slice b.Al b.log.length b.cl)∧w'.cell? (Pq w.heap.size 4)=some (Jq b.stable)∧w'.cell? (Pq w.heap.size 5)=some (Jq b.sent)∧w'.cell? (Pq w.heap.size 6)=some (.slice b.Ap b.pend.length b.cp)∧w'.cell? (Pq w.heap.size 7)=some (.slice b.Am b.marks.length b.cm)∧w'.cell? (Pq w.heap.size 8)=some (.slice b.Af b.fls.length b.cf)∧w.heap.size<w'.heap.size:=by
 exact qlm
theorem open_b(b:BM)(w:World)(h:b.Reads w)(hp:0<b.vs.length)(hf:b.Fits)(r:Bool)(hr:qaL b.st=r) :
  Calls Tryz.prog 40 #[.agg b.cells] w fun e w'=>e=.returned (.bool r)∧Ext w w':=by
 subst hr;exact qde b w h hp hf
theorem qiB(b:BM)(w:World)(h:b.Reads w)(hp:0<b.vs.length)(hf:b.Fits)(r:Bool)(hr:qaN b.st=r) :
  Calls Tryz.prog 41 #[.agg b.cells] w fun e w'=>e=.returned (.bool r)∧Ext w w':=by
 subst hr;exact qcU b w h hp hf
abbrev BM.cells2(b:BM)(Am Af:Option Addr):Array Value:=#[.int .i64 b.self,.slice b.Av b.vs.length b.cv,.int .i64 b.base,.slice b.Al b.log.length b.cl,.int .i64 b.stable,.int .i64 b.sent,.slice b.Ap b.pend.length b.cp,.slice Am b.marks.length b.cm,.slice Af b.fls.length b.cf]
theorem qhh{w w':World}{b:BM}{Am Af:Option Addr}(h:Ext (w.alloc (.cells (b.cells2 Am Af) 28)) w') :
  w'.cell? (Pq w.heap.size 0)=some (Jq b.self)∧w'.cell? (Pq w.heap.size 1)=some (.slice b.Av b.vs.length b.cv)∧w'.cell? (Pq w.heap.size 2)=some (Jq b.base)∧w'.cell? (Pq w.heap.size 3)=some (.slice b.Al b.log.length b.cl)∧w'.cell? (Pq w.heap.size 4)=some (Jq b.stable)∧w'.cell? (Pq w.heap.size 5)=some (Jq b.sent)∧w'.cell? (Pq w.heap.size 6)=some (.slice b.Ap b.pend.length b.cp)∧w'.cell? (Pq w.heap.size 7)=some (.slice Am b.marks.length b.cm)∧w'.cell? (Pq w.heap.size 8)=some (.slice Af b.fls.length b.cf)∧w.heap.size<w'.heap.size:=by
 exact qlm
theorem qtj(b:BM)(Am Af:Option Addr)(w:World)(h1:b.Am=Am)(h2:b.Af=Af)(h:b.Reads w)(hp:0<b.vs.length)(hf:b.Fits)(r:Bool)(hr:qaL b.st=r) :
  Calls Tryz.prog 40 #[.agg #[Jq b.self,.slice b.Av b.vs.length b.cv,Jq b.base,.slice b.Al b.log.length b.cl,Jq b.stable,Jq b.sent,.slice b.Ap b.pend.length b.cp,.slice Am b.marks.length b.cm,.slice Af b.fls.length b.cf]] w fun e w'=>e=.returned (.bool r)∧Ext w w':=by
 subst h1 h2;exact open_b b w h hp hf r hr
theorem qr3(b:BM)(Am Af:Option Addr)(w:World)(h1:b.Am=Am)(h2:b.Af=Af)(h:b.Reads w)(hp:0<b.vs.length)(hf:b.Fits)(r:Bool)(hr:qaN b.st=r) :
  Calls Tryz.prog 41 #[.agg #[Jq b.self,.slice b.Av b.vs.length b.cv,Jq b.base,.slice b.Al b.log.length b.cl,Jq b.stable,Jq b.sent,.slice b.Ap b.pend.length b.cp,.slice Am b.marks.length b.cm,.slice Af b.fls.length b.cf]] w fun e w'=>e=.returned (.bool r)∧Ext w w':=by
 subst h1 h2;exact qiB b w h hp hf r hr
def qtq(s:St):Bool:=(decide (0<s.marks.length)&&(!qaL s||!qaN s))||(decide (0<s.fls.length)&&(qaL s||!qaN s))
theorem qpR(s:St):qca s=(!qtq s&&((List.range s.marks.length).all (qbo s)&&(List.range s.fls.length).all (qdm s))):=by
 unfold qca qtq
 have e1:decide (s.marks.length=0)=!decide (0<s.marks.length):=by rw[Bool.eq_iff_iff];simp
 have e2:decide (s.fls.length=0)=!decide (0<s.fls.length):=by rw[Bool.eq_iff_iff];simp
 rw[e1,e2]
 cases decide (0<s.marks.length)<;>cases decide (0<s.fls.length)<;>cases qaL s<;>cases qaN s<;>simp
theorem qfh{w:World}{A:Option Addr}{l:List (Int×Int)}{i:Nat}(h:Row w A (qao.cells l))(hi:i<l.length) :
  ∃b off m,A=some (Pq b off)∧b<w.heap.size∧w.cell? (Pq b (off+i*2))=some (Jq (Prod.fst m))∧w.cell? (Pq b (off+i*2+1))=some (Jq m.2)∧Hid (l[i]?=some m):=by
 obtain⟨b,off,m,h1,h2,h3,_,h5⟩:=Elem.Box.at_ (E:=qao) (w:=w) (A:=A) (l:=l) ⟨h,fun a _=>⟨trivial,fun r hr=>by simp[qao] at hr⟩⟩ hi
 have h3':∀j u,(qao.f m)[j]?=some u→w.cell? (Pq b (off+i*2+j))=some u:=h3.out
 exact⟨b,off,m,h1,h2,by simpa using h3' 0 _ rfl,h3' 1 _ rfl,h5⟩
theorem qgC{w:World}{A:Option Addr}{l:List FlM}{i:Nat}(h:flE.Box w A l)(hi:i<l.length) :
  ∃b off f,A=some (Pq b off)∧b<w.heap.size∧w.cell? (Pq b (off+i*3))=some (Jq (FlM.m f))∧w.cell? (Pq b (off+i*3+1))=some (Jq f.b)∧w.cell? (Pq b (off+i*3+2))=some (.slice f.A f.log.length f.c)∧Hid (Row w f.A (qaz.cells f.log))∧Hid (l[i]?=some f):=by
 obtain⟨b,off,f,h1,h2,h3,h4,h5⟩:=h.at_ hi
 have h3':∀j u,(flE.f f)[j]?=some u→w.cell? (Pq b (off+i*3+j))=some u:=h3.out
 exact⟨b,off,f,h1,h2,by simpa using h3' 0 _ rfl,h3' 1 _ rfl,h3' 2 _ rfl,hJ (h4.out.2 (f.A,qaz.cells f.log) (by simp[flE])),h5⟩
theorem qbm(n:Int)(A:Option Addr)(k c:Nat)(w:World):(Instr.field 46 (.agg #[Jq n,.slice A k c]) 1).run Tryz.prog w=.ok (.slice A k c) w:=by
 simp[Instr.field,asAgg,go_sem]
theorem qoW{l:List (Int×Int)}{k:Nat}{m:Int×Int}(h:l[k]?=some m):qqV l (k+1)=m.1:=by unfold qqV;rw[if_neg (by omega),Nat.add_sub_cancel,h];rfl
theorem qm9{l:List Fls}{k:Nat}{m:Fls}(h:l[k]?=some m):qqv l (k+1)=m.1:=by unfold qqv;rw[if_neg (by omega),Nat.add_sub_cancel,h];rfl
theorem qqR{n k:Nat}{p:Nat→Bool}(hk:k<n)(h:p k=false):(List.range n).all p=false:=by
 rw[List.all_eq_false];exact⟨k,List.mem_range.2 hk,by simp[h]⟩
theorem qnr{n:Nat}{p:Nat→Bool}(h:∀j,j<n→p j=true):(List.range n).all p=true:=by
 rw[List.all_eq_true];exact fun j hj=>h j (List.mem_range.1 hj)
theorem qk5{k:Nat}{p:Nat→Bool}(h:∀j,j<k→p j=true)(hk:p k=true):∀j,j<k+1→p j=true:=by
 intro j hj
 rcases Nat.lt_or_ge j k with h1|h1
 ·exact h j h1
 ·rw[show j=k by omega];exact hk
theorem qnu{b:BM}{k:Nat}(hlt:k<b.marks.length)(hE:qca b.st=(!false&&((List.range b.st.marks.length).all (qbo b.st)&&(List.range b.st.fls.length).all (qdm b.st))))(h:qbo b.st k=false):false=qca b.st:=by
 rw[hE,qqR (n:=b.st.marks.length) (k:=k) hlt h];rfl
theorem qiG(b:BM):b.st.fls.length=b.fls.length:=by show (b.fls.map FlM.v).length=_;rw[List.length_map]
theorem qrB{b:BM}{k:Nat}(hlt:k<b.fls.length)(hE:qca b.st=(!false&&((List.range b.st.marks.length).all (qbo b.st)&&(List.range b.st.fls.length).all (qdm b.st))))(hm:(List.range b.st.marks.length).all (qbo b.st)=true)(h:qdm b.st k=false):false=qca b.st:=by
 rw[hE,hm,qqR (n:=b.st.fls.length) (k:=k) (by rw[qiG];exact hlt) h];rfl
theorem qtK{b:BM}(hE:qca b.st=(!false&&((List.range b.st.marks.length).all (qbo b.st)&&(List.range b.st.fls.length).all (qdm b.st))))(hm:(List.range b.st.marks.length).all (qbo b.st)=true)(h:∀j,j<b.fls.length→qdm b.st j=true):true=qca b.st:=by
 rw[hE,hm,qnr (n:=b.st.fls.length) (fun j hj=>h j (by rw[qiG] at hj;exact hj))];rfl
theorem qsR{s:St}{k:Nat}{m:Int×Int}(h:s.marks[k]?=some m):qbo s k=qe2 s k m:=by unfold qbo;rw[h]
theorem qsJ{s:St}{k:Nat}{f:Fls}(h:s.fls[k]?=some f):qdm s k=qrj s k f:=by unfold qdm;rw[h]
set_option maxHeartbeats 8000000 in
theorem qhy(b:BM)(Am Af:Option Addr)(w:World)(hAm:b.Am=Am)(hAf:b.Af=Af)(h:b.Reads w)(hp:0<b.vs.length)(hf:b.Fits) :
  Calls Tryz.prog 92 #[.agg #[Jq b.self,.slice b.Av b.vs.length b.cv,Jq b.base,.slice b.Al b.log.length b.cl,Jq b.stable,Jq b.sent,.slice b.Ap b.pend.length b.cp,.slice Am b.marks.length b.cm,.slice Af b.fls.length b.cf]] w fun e w'=>e=.returned (.bool (qca b.st))∧Ext w w':=by
 have H0:=hJ (Ext.new w (.cells (b.cells2 Am Af) 28))
 have HR:=hJ (h.ext H0.out)
 have hn:b.vs.length≤1000000000:=by have:=hf.vs;omega
 have hml:b.marks.length≤1000000000:=by have:=hf.marks;omega
 have hfl:b.fls.length≤1000000000:=by have:=hf.fls;omega
 have hll:b.log.length≤1000000000:=by have:=hf.log;omega
 have hxl0:=qe9 hf.vx
 have HFT:=hJ hf
 have HAm:=hJ hAm;have HAf:=hJ hAf
 clear h hf hAm hAf;have HE:=hJ (qpR b.st)
 obtain⟨bad,hbad⟩:∃x,qtq b.st=x:=⟨_,rfl⟩
 rw[hbad] at HE
 have HBAD:Hid (((decide (0<b.marks.length)&&(!qaL b.st||!qaN b.st))||(decide (0<b.fls.length)&&(qaL b.st||!qaN b.st)))=bad):=hJ (by
  rw[←hbad];show _=((decide (0<b.marks.length)&&_)||(decide (0<(b.fls.map FlM.v).length)&&_));rw[List.length_map])
 clear hbad;obtain⟨ob,hob⟩:∃x,qaL b.st=x:=⟨_,rfl⟩
 obtain⟨lb,hlb⟩:∃x,qaN b.st=x:=⟨_,rfl⟩
 have HOB:=hJ hob;have HLB:=hJ hlb
 rw[hob,hlb] at HBAD
 clear hob hlb;unfold BM.cells2 at H0 HR
 go_enter Tryz.func92,Tryz.ntmps92
 go_upto_region 1 with fail
 go_cut [36] (fun s36 wx=>s36=.bool bad∧Ext (w.alloc (.cells (b.cells2 Am Af) 28)) wx)
 case first=>
  obtain⟨bm,hbm⟩:∃x,decide (0<b.marks.length)=x:=⟨_,rfl⟩
  obtain⟨bf,hbf⟩:∃x,decide (0<b.fls.length)=x:=⟨_,rfl⟩
  have hbm2:decide ((0:Int)<(b.marks.length:Int))=bm:=by rw[←hbm,Bool.eq_iff_iff];simp
  have hbf2:decide ((0:Int)<(b.fls.length:Int))=bf:=by rw[←hbf,Bool.eq_iff_iff];simp
  rw[hbm,hbf] at HBAD
  have X:=hJ (Ext.refl (w.alloc (.cells (b.cells2 Am Af) 28)))
  cases bm<;>cases bf<;>cases ob<;>cases lb<;>
   (go_wp2_with (first
    | (go_at_call 40;refine(qtj b Am Af _ HAm.out HAf.out (HR.out.ext X.out) hp HFT.out _ HOB.out).mono ?_;rintro e wn ⟨rfl,hxn⟩;have X:=hJ (Ext.trans X.out hxn);clear hxn;obtain⟨q0,q1,q2,q3,q4,q5,q6,q7,q8,zz⟩:=qhh X.out)
    | (go_at_call 41;refine(qr3 b Am Af _ HAm.out HAf.out (HR.out.ext X.out) hp HFT.out _ HLB.out).mono ?_;rintro e wn ⟨rfl,hxn⟩;have X:=hJ (Ext.trans X.out hxn);clear hxn;obtain⟨q0,q1,q2,q3,q4,q5,q6,q7,q8,zz⟩:=qhh X.out))
    go_meet
    case rel=>exact⟨by rw[←HBAD.out];rfl,X.out⟩)
 case rest=>
  obtain⟨rfl,HX0⟩:=hcut
  have X1:=hJ HX0;clear HX0
  obtain⟨q0,q1,q2,q3,q4,q5,q6,q7,q8,z1⟩:=qhh X1.out
  clear HBAD;cases bad
  rotate_left
  ·go_wp2
   go_ret
   exact⟨qae (by rw[HE.out];rfl),H0.out.trans X1.out⟩
  obtain⟨⟨ln,lxs⟩,hl2⟩:∃v,qaf (vws b.vs)=v:=⟨_,rfl⟩
  have HL:=hJ hl2
  have HLV:Hid (qaf b.st.views=(ln,lxs)):=hJ hl2
  rw[hl2] at hxl0
  have hxl:lxs.length≤9223372036854775807:=by simp only at hxl0;omega
  clear hl2 hxl0;have hfd:=qbm
  go_wp2;go_loopw [3,40] (fun bf i wr=>∃k:Nat,k≤b.marks.length∧i=Jq k∧bf=Jq (qqV b.marks k)∧Hid (∀j,j<k→qbo b.st j=true)∧Ext (w.alloc (.cells (b.cells2 Am Af) 28)) wr) (fun _ i _=>b.marks.length - (intOf i).toNat)
  case atStart=>exact⟨0,Nat.zero_le _,rfl,rfl,hJ (fun j hj=>absurd hj (Nat.not_lt_zero _)),X1.out⟩
  case round=>
   obtain⟨k,hk,rfl,rfl,HT,HS0⟩:=hrel
   have HS:=hJ HS0;clear HS0
   obtain⟨p0,p1,p2,p3,p4,p5,p6,p7,p8,zr⟩:=qhh HS.out
   by_cases hlt:k<b.marks.length
   ·obtain⟨bb,off,m,rfl,hb,c0,c1,HM⟩:=qfh (show Row wr Am (qao.cells b.marks) by rw[←HAm.out];exact(HR.out.ext HS.out).marks) hlt
    have HN:=hJ (qoW HM.out)
    have HOK:Hid (qbo b.st k=(decide (qqV b.marks k<m.1)&&(decide (m.1≠b.self)&&(qbr lxs m.1&&(decide (0≤m.2)&&decide (m.2≤b.log.length)))))):=hJ (by
     rw[qsR (s:=b.st) HM.out,qe2,HLV.out];rfl)
    have X3:=hJ (HS.out.alloc (.cells #[Jq m.1,Jq m.2] 123))
    have RV:=hJ ((HR.out.ext X3.out.drew).vs)
    have s0:(wr.alloc (.cells #[Jq m.1,Jq m.2] 123)).cell? (Pw w 0)=some (Jq b.self):=by simpa using X3.out.cell_new 0
    have s1:(wr.alloc (.cells #[Jq m.1,Jq m.2] 123)).cell? (Pw w 1)=some (.slice b.Av b.vs.length b.cv):=by simpa using X3.out.cell_new 1
    have s2:(wr.alloc (.cells #[Jq m.1,Jq m.2] 123)).cell? (Pw w 3)=some (.slice b.Al b.log.length b.cl):=by simpa using X3.out.cell_new 3
    have s3:(wr.alloc (.cells #[Jq m.1,Jq m.2] 123)).cell? (Pw wr 0)=some (Jq m.1):=by simp
    have s4:(wr.alloc (.cells #[Jq m.1,Jq m.2] 123)).cell? (Pw wr 1)=some (Jq m.2):=by simp
    generalize qqV b.marks k=bf at *
    by_cases h1:bf<m.1
    rotate_left
    ·have h1':decide (m.1≤bf)=true:=decide_eq_true (by omega)
     have H1:=hJ h1
     clear h1;go_wp2;go_quiet (fail)
     go_wp2;go_ret
     exact⟨qae (qnu hlt HE.out (by rw[HOK.out,decide_eq_false (Int.not_lt.2 H1.out)];rfl)),H0.out.trans (X3.out.drewN _)⟩
    have H1:=hJ h1
    have h1':decide (m.1≤bf)=false:=decide_eq_false (by omega)
    clear h1;by_cases h2:m.1=b.self
    ·have h2':(m.1 == b.self)=true:=by simp[h2]
     have H2:=hJ h2
     clear h2;go_wp2;go_quiet (fail)
     go_wp2;go_ret
     exact⟨qae (qnu hlt HE.out (by rw[HOK.out,decide_eq_false (p:=m.1≠b.self) (fun hh=>hh H2.out)];simp)),H0.out.trans (X3.out.drewN _)⟩
    have h2':(m.1 == b.self)=false:=beq_eq_false_iff_ne.2 h2
    have H2:=hJ h2
    clear h2;cases h3:qbr lxs m.1
    ·have HH:=hJ h3;clear h3
     go_wp2;refine wp_region_held_drew (S:=fun w'=>w'.cell? (Pw w 0)=some (Jq b.self)∧w'.cell? (Pw w 1)=some (.slice b.Av b.vs.length b.cv)∧w'.cell? (Pw w 3)=some (.slice b.Al b.log.length b.cl)∧w'.cell? (Pw wr 0)=some (Jq m.1)∧w'.cell? (Pw wr 1)=some (Jq m.2)) (by kernel_rfl) ⟨s0,s1,s2,s3,s4⟩ (fun hHeld=>?_)
     refine qaC 0 44 ?_
     refine qaC 1 45 ?_
     refine qaC 2 46 ?_
     refine qaC 3 47 ?_
     refine qaC 4 48 ?_
     refine qaC 5 49 ?_
     refine qaC 6 50 ?_
     refine qaC 7 51 ?_
     refine qaC 8 52 ?_
     refine qaC 9 53 ?_
     refine qaC 10 54 ?_
     refine qaC 11 55 ?_
     refine qaC 12 56 ?_
     refine qaC 13 57 ?_
     refine qaC 16 60 ?_
     refine qaC 17 61 ?_
     refine wpAnyH_ready (rs:=[14]) (by kernel_rfl) (by simp) ?_
     refine AllReadyH.cons (o:=⟨some 58,_,_,_,_,_⟩) rfl (fun K hK=>?_) AllReadyH.nil
     go_simp;go_at_call 49;refine(qdj b.Av b.cv b.vs _ RV.out hp hn ln lxs HL.out).mono ?_
     rintro e w4 ⟨A4,c4,rfl,_,_,HR4,hx4⟩
     have X4:=hJ ((X3.out.drew).trans hx4)
     have r0:w4.cell? (Pw w 0)=some (Jq b.self):=(by first|(simpa using X4.out.cell_new 0)|(rw[hx4.cell (by simp)];simp))
     have r1:w4.cell? (Pw w 1)=some (.slice b.Av b.vs.length b.cv):=(by first|(simpa using X4.out.cell_new 1)|(rw[hx4.cell (by simp)];simp))
     have r2:w4.cell? (Pw w 3)=some (.slice b.Al b.log.length b.cl):=(by first|(simpa using X4.out.cell_new 3)|(rw[hx4.cell (by simp)];simp))
     have r3:w4.cell? (Pw wr 0)=some (Jq m.1):=(by first|(simpa using X4.out.cell_new 0)|(rw[hx4.cell (by simp)];simp))
     have r4:w4.cell? (Pw wr 1)=some (Jq m.2):=(by first|(simpa using X4.out.cell_new 1)|(rw[hx4.cell (by simp)];simp))
     clear hHeld hx4;refine hK.out _ _ ⟨r0,r1,r2,r3,r4⟩ (fun hHeld=>?_)
     try simp only[Act.put,l1,l2,l3]
     refine qaC 15 59 ?_
     refine wpAnyH_ready (rs:=[18]) (by kernel_rfl) (by simp) ?_
     refine AllReadyH.cons (o:=⟨some 62,_,_,_,_,_⟩) rfl (fun K hK=>?_) AllReadyH.nil
     go_simp;go_at_call 85;refine(qa6 A4 c4 lxs m.1 _ HR4.out hxl _ HH.out).mono ?_
     rintro e w5 ⟨rfl,hw5⟩
     subst hw5
     clear hHeld;refine hK.out _ _ ⟨r0,r1,r2,r3,r4⟩ (fun hHeld=>?_)
     try simp only[Act.put,l1,l2,l3]
     refine qaC 19 63 ?_
     refine qaC 20 64 ?_
     refine qaC 21 65 ?_
     refine wpAnyH_take (i:=22) (oi:=⟨some 66,_,_,_,_,_⟩) (v:=undef) rfl (by kernel_rfl) (by kernel_rfl) (by kernel_rfl) (fun _ _ _ h=>h) (Or.inr ⟨by rfl,rfl⟩) (by assumption) ?_
     try simp only[Act.put,l1,l2,l3]
     refine wpAnyH_take (i:=23) (oi:=⟨some 67,_,_,_,_,_⟩) (v:=undef) rfl (by kernel_rfl) (by kernel_rfl) (by kernel_rfl) (fun _ _ _ h=>h) (Or.inr ⟨by rfl,rfl⟩) (by assumption) ?_
     try simp only[Act.put,l1,l2,l3]
     refine wpAnyH_take (i:=24) (oi:=⟨some 68,_,_,_,_,_⟩) (v:=undef) rfl (by kernel_rfl) (by kernel_rfl) (by kernel_rfl) (fun _ _ _ h=>h) (Or.inr ⟨by rfl,rfl⟩) (by assumption) ?_
     try simp only[Act.put,l1,l2,l3]
     refine qaC 25 69 ?_
     refine qaC 26 70 ?_
     refine wpAnyH_take (i:=27) (oi:=⟨some 71,_,_,_,_,_⟩) (v:=undef) rfl (by kernel_rfl) (by kernel_rfl) (by kernel_rfl) (fun _ _ _ h=>h) (Or.inr ⟨by rfl,rfl⟩) (by assumption) ?_
     try simp only[Act.put,l1,l2,l3]
     refine wpAnyH_take (i:=28) (oi:=⟨some 72,_,_,_,_,_⟩) (v:=undef) rfl (by kernel_rfl) (by kernel_rfl) (by kernel_rfl) (fun _ _ _ h=>h) (Or.inr ⟨by rfl,rfl⟩) (by assumption) ?_
     try simp only[Act.put,l1,l2,l3]
     refine wpAnyH_take (i:=29) (oi:=⟨some 73,_,_,_,_,_⟩) (v:=undef) rfl (by kernel_rfl) (by kernel_rfl) (by kernel_rfl) (fun _ _ _ h=>h) (Or.inr ⟨by rfl,rfl⟩) (by assumption) ?_
     try simp only[Act.put,l1,l2,l3]
     refine wpAnyH_take (i:=30) (oi:=⟨some 74,_,_,_,_,_⟩) (v:=undef) rfl (by kernel_rfl) (by kernel_rfl) (by kernel_rfl) (fun _ _ _ h=>h) (Or.inr ⟨by rfl,rfl⟩) (by assumption) ?_
     try simp only[Act.put,l1,l2,l3]
     refine wpAnyH_take (i:=31) (oi:=⟨some 75,_,_,_,_,_⟩) (v:=undef) rfl (by kernel_rfl) (by kernel_rfl) (by kernel_rfl) (fun _ _ _ h=>h) (Or.inr ⟨by rfl,rfl⟩) (by assumption) ?_
     try simp only[Act.put,l1,l2,l3]
     refine wpAnyH_take (i:=32) (oi:=⟨some 76,_,_,_,_,_⟩) (v:=undef) rfl (by kernel_rfl) (by kernel_rfl) (by kernel_rfl) (fun _ _ _ h=>h) (Or.inr ⟨by rfl,rfl⟩) (by assumption) ?_
     try simp only[Act.put,l1,l2,l3]
     refine qaC 33 77 ?_
     refine wpAnyH_done (by kernel_rfl) ?_ _
     go_wp2;go_ret
     exact⟨qae (qnu hlt HE.out (by rw[HOK.out,HH.out];simp)),H0.out.trans X4.out⟩
    have HH:=hJ h3;clear h3
    by_cases h4:m.2<0
    ·have h4':decide (m.2<0)=true:=decide_eq_true h4
     have H4:=hJ h4
     clear h4;go_wp2;refine wp_region_held_drew (S:=fun w'=>w'.cell? (Pw w 0)=some (Jq b.self)∧w'.cell? (Pw w 1)=some (.slice b.Av b.vs.length b.cv)∧w'.cell? (Pw w 3)=some (.slice b.Al b.log.length b.cl)∧w'.cell? (Pw wr 0)=some (Jq m.1)∧w'.cell? (Pw wr 1)=some (Jq m.2)) (by kernel_rfl) ⟨s0,s1,s2,s3,s4⟩ (fun hHeld=>?_)
     refine qaC 0 44 ?_
     refine qaC 1 45 ?_
     refine qaC 2 46 ?_
     refine qaC 3 47 ?_
     refine qaC 4 48 ?_
     refine qaC 5 49 ?_
     refine qaC 6 50 ?_
     refine qaC 7 51 ?_
     refine qaC 8 52 ?_
     refine qaC 9 53 ?_
     refine qaC 10 54 ?_
     refine qaC 11 55 ?_
     refine qaC 12 56 ?_
     refine qaC 13 57 ?_
     refine qaC 16 60 ?_
     refine qaC 17 61 ?_
     refine wpAnyH_ready (rs:=[14]) (by kernel_rfl) (by simp) ?_
     refine AllReadyH.cons (o:=⟨some 58,_,_,_,_,_⟩) rfl (fun K hK=>?_) AllReadyH.nil
     go_simp;go_at_call 49;refine(qdj b.Av b.cv b.vs _ RV.out hp hn ln lxs HL.out).mono ?_
     rintro e w4 ⟨A4,c4,rfl,_,_,HR4,hx4⟩
     have X4:=hJ ((X3.out.drew).trans hx4)
     have r0:w4.cell? (Pw w 0)=some (Jq b.self):=(by first|(simpa using X4.out.cell_new 0)|(rw[hx4.cell (by simp)];simp))
     have r1:w4.cell? (Pw w 1)=some (.slice b.Av b.vs.length b.cv):=(by first|(simpa using X4.out.cell_new 1)|(rw[hx4.cell (by simp)];simp))
     have r2:w4.cell? (Pw w 3)=some (.slice b.Al b.log.length b.cl):=(by first|(simpa using X4.out.cell_new 3)|(rw[hx4.cell (by simp)];simp))
     have r3:w4.cell? (Pw wr 0)=some (Jq m.1):=(by first|(simpa using X4.out.cell_new 0)|(rw[hx4.cell (by simp)];simp))
     have r4:w4.cell? (Pw wr 1)=some (Jq m.2):=(by first|(simpa using X4.out.cell_new 1)|(rw[hx4.cell (by simp)];simp))
     clear hHeld hx4;refine hK.out _ _ ⟨r0,r1,r2,r3,r4⟩ (fun hHeld=>?_)
     try simp only[Act.put,l1,l2,l3]
     refine qaC 15 59 ?_
     refine wpAnyH_ready (rs:=[18]) (by kernel_rfl) (by simp) ?_
     refine AllReadyH.cons (o:=⟨some 62,_,_,_,_,_⟩) rfl (fun K hK=>?_) AllReadyH.nil
     go_simp;go_at_call 85;refine(qa6 A4 c4 lxs m.1 _ HR4.out hxl _ HH.out).mono ?_
     rintro e w5 ⟨rfl,hw5⟩
     subst hw5
     clear hHeld;refine hK.out _ _ ⟨r0,r1,r2,r3,r4⟩ (fun hHeld=>?_)
     try simp only[Act.put,l1,l2,l3]
     refine qaC 19 63 ?_
     refine qaC 20 64 ?_
     refine qaC 21 65 ?_
     refine qaC 22 66 ?_
     refine qaC 23 67 ?_
     refine qaC 24 68 ?_
     refine qaC 25 69 ?_
     refine qaC 26 70 ?_
     refine wpAnyH_take (i:=27) (oi:=⟨some 71,_,_,_,_,_⟩) (v:=undef) rfl (by kernel_rfl) (by kernel_rfl) (by kernel_rfl) (fun _ _ _ h=>h) (Or.inr ⟨by rfl,rfl⟩) (by assumption) ?_
     try simp only[Act.put,l1,l2,l3]
     refine wpAnyH_take (i:=28) (oi:=⟨some 72,_,_,_,_,_⟩) (v:=undef) rfl (by kernel_rfl) (by kernel_rfl) (by kernel_rfl) (fun _ _ _ h=>h) (Or.inr ⟨by rfl,rfl⟩) (by assumption) ?_
     try simp only[Act.put,l1,l2,l3]
     refine wpAnyH_take (i:=29) (oi:=⟨some 73,_,_,_,_,_⟩) (v:=undef) rfl (by kernel_rfl) (by kernel_rfl) (by kernel_rfl) (fun _ _ _ h=>h) (Or.inr ⟨by rfl,rfl⟩) (by assumption) ?_
     try simp only[Act.put,l1,l2,l3]
     refine wpAnyH_take (i:=30) (oi:=⟨some 74,_,_,_,_,_⟩) (v:=undef) rfl (by kernel_rfl) (by kernel_rfl) (by kernel_rfl) (fun _ _ _ h=>h) (Or.inr ⟨by rfl,rfl⟩) (by assumption) ?_
     try simp only[Act.put,l1,l2,l3]
     refine wpAnyH_take (i:=31) (oi:=⟨some 75,_,_,_,_,_⟩) (v:=undef) rfl (by kernel_rfl) (by kernel_rfl) (by kernel_rfl) (fun _ _ _ h=>h) (Or.inr ⟨by rfl,rfl⟩) (by assumption) ?_
     try simp only[Act.put,l1,l2,l3]
     refine wpAnyH_take (i:=32) (oi:=⟨some 76,_,_,_,_,_⟩) (v:=undef) rfl (by kernel_rfl) (by kernel_rfl) (by kernel_rfl) (fun _ _ _ h=>h) (Or.inr ⟨by rfl,rfl⟩) (by assumption) ?_
     try simp only[Act.put,l1,l2,l3]
     refine qaC 33 77 ?_
     refine wpAnyH_done (by kernel_rfl) ?_ _
     go_wp2;go_ret
     exact⟨qae (qnu hlt HE.out (by rw[HOK.out,decide_eq_false (p:=0≤m.2) (by have:=H4.out;omega)];simp)),H0.out.trans X4.out⟩
    have h4':decide (m.2<0)=false:=decide_eq_false h4
    have H4:=hJ h4
    clear h4;by_cases h5:(b.log.length:Int)<m.2
    ·have h5':decide ((b.log.length:Int)<m.2)=true:=decide_eq_true h5
     have H5:=hJ h5
     clear h5;go_wp2;go_region_held3 (fun w'=>w'.cell? (Pw w 0)=some (Jq b.self)∧w'.cell? (Pw w 1)=some (.slice b.Av b.vs.length b.cv)∧w'.cell? (Pw w 3)=some (.slice b.Al b.log.length b.cl)∧w'.cell? (Pw wr 0)=some (Jq m.1)∧w'.cell? (Pw wr 1)=some (Jq m.2))
      (first|exact⟨s0,s1,s2,s3,s4⟩|exact⟨r0,r1,r2,r3,r4⟩)
      (first
       | (go_at_call 49;(with_reducible refine(qdj b.Av b.cv b.vs _ (by exact RV.out) hp hn ln lxs (by exact HL.out)).mono ?_);rintro e w4 ⟨A4,c4,rfl,_,_,HR4,hx4⟩;have X4:=hJ (Ext.trans (X3.out.drew) hx4);have r0:w4.cell? ⟨w.heap.size,0,none⟩=some (.int .i64 b.self):=(by first|(simpa using X4.out.cell_new 0)|(rw[hx4.cell (by simp)];simp));have r1:w4.cell? ⟨w.heap.size,1,none⟩=some (.slice b.Av b.vs.length b.cv):=(by first|(simpa using X4.out.cell_new 1)|(rw[hx4.cell (by simp)];simp));have r2:w4.cell? ⟨w.heap.size,3,none⟩=some (.slice b.Al b.log.length b.cl):=(by first|(simpa using X4.out.cell_new 3)|(rw[hx4.cell (by simp)];simp));have r3:w4.cell? ⟨wr.heap.size,0,none⟩=some (.int .i64 m.1):=(by first|(simpa using X4.out.cell_new 0)|(rw[hx4.cell (by simp)];simp));have r4:w4.cell? ⟨wr.heap.size,1,none⟩=some (.int .i64 m.2):=(by first|(simpa using X4.out.cell_new 1)|(rw[hx4.cell (by simp)];simp));clear hx4)
       | (go_at_call 85;(with_reducible refine(qa6 A4 c4 lxs m.1 _ (by exact HR4.out) hxl _ (by exact HH.out)).mono ?_);rintro e w5 ⟨rfl,rfl⟩))
     go_wp2;go_ret
     exact⟨qae (qnu hlt HE.out (by rw[HOK.out,decide_eq_false (p:=m.2≤(b.log.length:Int)) (by have:=H5.out;omega)];simp)),H0.out.trans X4.out⟩
    ·have h5':decide ((b.log.length:Int)<m.2)=false:=decide_eq_false h5
     have H5:=hJ h5
     clear h5;go_wp2;go_region_held3 (fun w'=>w'.cell? (Pw w 0)=some (Jq b.self)∧w'.cell? (Pw w 1)=some (.slice b.Av b.vs.length b.cv)∧w'.cell? (Pw w 3)=some (.slice b.Al b.log.length b.cl)∧w'.cell? (Pw wr 0)=some (Jq m.1)∧w'.cell? (Pw wr 1)=some (Jq m.2))
      (first|exact⟨s0,s1,s2,s3,s4⟩|exact⟨r0,r1,r2,r3,r4⟩)
      (first
       | (go_at_call 49;(with_reducible refine(qdj b.Av b.cv b.vs _ (by exact RV.out) hp hn ln lxs (by exact HL.out)).mono ?_);rintro e w4 ⟨A4,c4,rfl,_,_,HR4,hx4⟩;have X4:=hJ (Ext.trans (X3.out.drew) hx4);have r0:w4.cell? ⟨w.heap.size,0,none⟩=some (.int .i64 b.self):=(by first|(simpa using X4.out.cell_new 0)|(rw[hx4.cell (by simp)];simp));have r1:w4.cell? ⟨w.heap.size,1,none⟩=some (.slice b.Av b.vs.length b.cv):=(by first|(simpa using X4.out.cell_new 1)|(rw[hx4.cell (by simp)];simp));have r2:w4.cell? ⟨w.heap.size,3,none⟩=some (.slice b.Al b.log.length b.cl):=(by first|(simpa using X4.out.cell_new 3)|(rw[hx4.cell (by simp)];simp));have r3:w4.cell? ⟨wr.heap.size,0,none⟩=some (.int .i64 m.1):=(by first|(simpa using X4.out.cell_new 0)|(rw[hx4.cell (by simp)];simp));have r4:w4.cell? ⟨wr.heap.size,1,none⟩=some (.int .i64 m.2):=(by first|(simpa using X4.out.cell_new 1)|(rw[hx4.cell (by simp)];simp));clear hx4)
       | (go_at_call 85;(with_reducible refine(qa6 A4 c4 lxs m.1 _ (by exact HR4.out) hxl _ (by exact HH.out)).mono ?_);rintro e w5 ⟨rfl,rfl⟩))
     go_wp2;go_roundw
     case rel=>exact⟨k+1,by omega,by go_num,by rw[HN.out],hJ (qk5 HT.out (by rw[HOK.out,decide_eq_true H1.out,decide_eq_true (p:=m.1≠b.self) H2.out,HH.out,decide_eq_true (p:=0≤m.2) (by have:=H4.out;omega),decide_eq_true (p:=m.2≤(b.log.length:Int)) (by have:=H5.out;omega)];rfl)),X4.out⟩
     case measure=>simp[intOf]<;>omega
   ·have HMK:=hJ (qnr (n:=b.st.marks.length) (p:=qbo b.st) (fun j hj=>HT.out j (by have:b.st.marks.length=b.marks.length:=rfl;omega)))
    obtain⟨wo,rfl⟩:∃x,x=wr:=⟨wr,rfl⟩
    go_wp2;go_loopw [3,84] (fun bf i wr=>∃k:Nat,k≤b.fls.length∧i=Jq k∧bf=Jq (qqv b.st.fls k)∧Hid (∀j,j<k→qdm b.st j=true)∧Ext (w.alloc (.cells (b.cells2 Am Af) 28)) wr) (fun _ i _=>b.fls.length - (intOf i).toNat)
    case atStart=>exact⟨0,Nat.zero_le _,rfl,rfl,hJ (fun j hj=>absurd hj (Nat.not_lt_zero _)),HS.out⟩
    case round=>
     obtain⟨k2,hk2,rfl,rfl,HT2,HS2⟩:=hrel
     have HQ:=hJ HS2;clear HS2
     obtain⟨t0,t1,t2,t3,t4,t5,t6,t7,t8,zt⟩:=qhh HQ.out
     have hfz:b.st.fls.length=b.fls.length:=by show (b.fls.map FlM.v).length=_;rw[List.length_map]
     by_cases hlt2:k2<b.fls.length
     ·obtain⟨bb,off,f,rfl,hb,c0,c1,c2,HFR,HF⟩:=qgC (show flE.Box wr Af b.fls by rw[←HAf.out];exact(HR.out.ext HQ.out).fls) hlt2
      have hst:b.st.fls[k2]?=some f.v:=by show (b.fls.map FlM.v)[k2]?=_;rw[List.getElem?_map,HF.out];rfl
      have HN:=hJ (qm9 hst)
      have HOK:Hid (qdm b.st k2=(decide (qqv b.st.fls k2<f.m)&&(qb2 f.m&&qbL (vws b.vs) f.v))):=hJ (by rw[qsJ hst];rfl)
      have hff:=HFT.out.fl f (List.mem_of_getElem? HF.out)
      have hfg:f.log.length≤1000000000:=by have:=hff.1;omega
      have HFP:=hJ hff.2
      clear hst hff;have X3:=hJ (Ext.new wr (.cells #[Jq f.m,Jq f.b,.slice f.A f.log.length f.c] 80))
      generalize qqv b.st.fls k2=bf at *
      by_cases h1:bf<f.m
      rotate_left
      ·have h1':decide (f.m≤bf)=true:=decide_eq_true (by omega)
       have H1:=hJ h1
       clear h1;go_wp2;go_ret
       exact⟨qae (qrB hlt2 HE.out HMK.out (by rw[HOK.out,decide_eq_false (Int.not_lt.2 H1.out)];rfl)),H0.out.trans (HQ.out.trans X3.out)⟩
      have H1:=hJ h1
      have h1':decide (f.m≤bf)=false:=decide_eq_false (by omega)
      clear h1;go_wp2_with fail
      refine(qcm f.m _).mono ?_
      cases hid:qb2 f.m
      ·have HD:=hJ hid;clear hid
       rintro r w4 ⟨rfl,rfl⟩
       go_wp2;go_ret
       exact⟨qae (qrB hlt2 HE.out HMK.out (by rw[HOK.out,HD.out];simp)),H0.out.trans (HQ.out.trans X3.out)⟩
      have HD:=hJ hid;clear hid
      rintro r w4 ⟨rfl,rfl⟩
      go_wp2_with fail
      refine(qgb b.Av b.cv b.vs f _ (HR.out.ext (HQ.out.trans X3.out)).vs (HFR.out.ext X3.out) hn HFT.out.vx hfg HFP.out).mono ?_
      cases hps:qbL (vws b.vs) f.v
      ·have HP:=hJ hps;clear hps
       rintro r w5 ⟨rfl,hx5⟩
       have X5:=hJ (HQ.out.trans (X3.out.trans hx5));clear hx5
       go_wp2;go_ret
       exact⟨qae (qrB hlt2 HE.out HMK.out (by rw[HOK.out,HP.out];simp)),H0.out.trans X5.out⟩
      ·have HP:=hJ hps;clear hps
       rintro r w5 ⟨rfl,hx5⟩
       have X5:=hJ (HQ.out.trans (X3.out.trans hx5))
       have u0:w5.cell? (Pw wr 0)=some (Jq f.m):=by rw[hx5.cell (by simp)];simp
       clear hx5;go_wp2;go_roundw
       case rel=>exact⟨k2+1,by omega,by go_num,by rw[HN.out];rfl,hJ (qk5 HT2.out (by rw[HOK.out,decide_eq_true H1.out,HD.out,HP.out];rfl)),X5.out⟩
       case measure=>simp[intOf]<;>omega
     ·go_wp2
      go_ret
      exact⟨qae (qtK HE.out HMK.out (fun j hj=>HT2.out j (by omega))),H0.out.trans HQ.out⟩
theorem qhx(b:BM)(w:World)(h:b.Reads w)(hp:0<b.vs.length)(hf:b.Fits) :
  Calls Tryz.prog 92 #[.agg b.cells] w fun e w'=>e=.returned (.bool (qca b.st))∧Ext w w':=qhy b b.Am b.Af w rfl rfl h hp hf
def qek(l p:List Ent):Bool:=decide (p.length≤l.length)&&qes (l.take p.length) p
theorem Row.take_ents{w:World}{A:Option Addr}{l:List Ent}(h:Row w A (qaz.cells l))(n:Nat):Row w A (qaz.cells (l.take n)):=by
 intro hne
 have hl:qaz.cells l=qaz.cells (l.take n)++qaz.cells (l.drop n):=by rw[←qaz.cells_append,List.take_append_drop]
 obtain⟨b,off,h1,h2,h3⟩:=h (by rw[hl];simp[hne])
 refine⟨b,off,h1,h2,fun j u hj=>h3 j u ?_⟩
 rw[hl,List.getElem?_append_left (List.getElem?_eq_some_iff.1 hj).1];exact hj
theorem qo0(A A':Option Addr)(n c c':Nat)(xs ys:List Ent)(w:World)(hl:n=xs.length)(h:Row w A (qaz.cells xs))(h':Row w A' (qaz.cells ys))(hn:xs.length≤1000000000) :
  Calls Tryz.prog 179 #[.slice A n c,.slice A' ys.length c'] w fun e w'=>e=.returned (.bool (qes xs ys))∧Still w w':=by
 subst hl;exact qhC A A' c c' xs ys w h h' hn
theorem qlI(A A':Option Addr)(c c':Nat)(l p:List Ent)(w:World)(h:Row w A (qaz.cells l))(h':Row w A' (qaz.cells p))(hn:l.length≤1000000000)(hc:l.length≤c) :
  Calls Tryz.prog 130 #[.slice A l.length c,.slice A' p.length c'] w fun e w'=>e=.returned (.bool (qek l p))∧Ext w w':=by
 have H:=hJ (h.take_ents p.length);have H':=hJ h';clear h h'
 by_cases hle:p.length≤l.length
 ·have HL:=hJ hle
  have hle1:decide ((p.length:Int)≤(l.length:Int))=true:=decide_eq_true (by omega)
  have k1:(0:Int)≤(p.length:Int):=by omega
  have k2:(p.length:Int)≤(c:Int):=by omega
  have k3:p.length≤c:=by omega
  have hlt:(l.take p.length).length=p.length:=by rw[List.length_take];omega
  have HT:=hJ hlt
  clear hle hlt;go_enter Tryz.func130,Tryz.ntmps130
  go_wp2_with fail
  refine(qo0 A A' p.length c c' (l.take p.length) p _ HT.out.symm H.out H'.out (by rw[HT.out];omega)).mono ?_
  rintro e w1 ⟨rfl,hs1⟩
  have X1:=hJ hs1.ext
  clear hs1;go_wp2;go_ret
  exact⟨qae (by rw[qek,decide_eq_true HL.out];rfl),X1.out⟩
 ·have HL:=hJ hle
  have hle1:decide ((p.length:Int)≤(l.length:Int))=false:=decide_eq_false (by omega)
  clear hle;go_enter Tryz.func130,Tryz.ntmps130
  go_wp2;go_ret
  exact⟨qae (by rw[qek,decide_eq_false HL.out];rfl),Ext.refl _⟩
end Go.Proofs.YtponbabbabnaeaaGreat
