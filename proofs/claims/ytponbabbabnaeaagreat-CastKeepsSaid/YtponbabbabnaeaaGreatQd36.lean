/- Part 36 of the proof: contracts of functions that the statement reaches. Conditions: as each theorem says. -/
import Derived.Test.YtponbabbabnaeaaGreatQd01
import Derived.Test.YtponbabbabnaeaaGreatQd35
import Derived.Test.YtponbabbabnaeaaGreatQd08
set_option maxRecDepth 100000
namespace Go.Proofs.YtponbabbabnaeaaGreat
open Go.RowKit
theorem qdx{ops:Array Oper}{rest:List Oper}{o:Oper}{a:Act}{Q:Exit→Act→World→Prop}(hgd:o.guard=none)(s x:Operand)
  (ho:o.op=.call {callee:=.builtin .append,args:=#[s,x],argTypes:=#[29,29]})
  (W w0:World) (A:Option Addr) (n c:Nat) (xs:List UInt8) (hs:a.eval s=.slice A n c) (A2:Option Addr) (m c2:Nat) (ys:List UInt8) (hx:a.eval x=.slice A2 m c2) (hm:m=ys.length) (hr:Hid (Row W A2 (qad ys)))
  (hown:Hid (Own W w0.heap.size 5 (.slice A n c) (qad xs))) (hl:xs.length+m<2000000000) (he:Hid (Ext w0 W))
  (h:∀A' c' w',(xs++ys).length≤c'→c'≤maxLen→Hid (Own w' w0.heap.size 5 (.slice A' (xs++ys).length c') (qad (xs++ys)))→Hid (Ext w0 w')→wpList Tryz.prog ops Q rest (a.put o.dst (.slice A' (xs++ys).length c')) w') :
  wpList Tryz.prog ops Q (o::rest) a W:=by
 refine qdn hgd s x _ 5 _ 1 ho Tryz.underlying29 qcx rfl (by decide) W w0.heap.size _ _ hs A2 m c2 (qad ys) hx (by rw[hm,qau]) hr.out (qdI _) hown.out (by rw[qau];exact hl) he.out.size ?_
 intro v w' ho' hg _
 rw[←qbJ] at ho'
 obtain⟨A',c',h1,h2,h3,_⟩:=ho'.slice
 rw[qau] at h1 h2
 subst h1
 exact h A' c' w' h2 h3 (hJ ho') (hJ (hg.below he.out he.out.size (fun k hk=>(hown.out.lt k hk).1)))
theorem qrv(k:Nat)(hk:k≤255)(w:World):Own (w.alloc (.cells #[.int .u8 65,.int .u8 71,.int .u8 (k:Int)] 5)) w.heap.size 5 (.slice (some (Pq w.heap.size 0)) 3 3) (qad [65,71,UInt8.ofNat k]):=by
 have e:qad [65,71,UInt8.ofNat k]=[.int .u8 65,.int .u8 71,.int .u8 (k:Int)]:=by
  simp only[qad,List.map_cons,List.map_nil,UInt8.toNat_ofNat']
  rw[show ((k % 2 ^ 8:Nat):Int)=(k:Int) by omega];rfl
 rw[e]
 exact⟨rfl,.inr ⟨w.heap.size,3,_,rfl,Nat.le_refl _,(by show (w.heap.push _)[w.heap.size]?=_;simp;rfl),Nat.le_refl _,by unfold maxLen;decide,rfl,rfl⟩⟩
set_option maxHeartbeats 1000000 in
theorem qmF(k:Nat)(A:Option Addr)(c:Nat)(body:List UInt8)(w:World)(h:Row w A (qad body))(hl:body.length≤100000000)(hk:1≤k∧k≤255) :
  Calls Tryz.prog 165 #[Jq (k:Int),.slice A body.length c] w fun e w'=>∃err,qqx w (qa2 k body) err e w':=by
 have H:=hJ h;clear h
 by_cases hb:body.length≤16777216
 ·have HF:Hid (qa2 k body=qd2 k body++le4 (qf5 (qd2 k body))):=hJ (by unfold qa2;rw[if_pos hb])
  have hn:Hid (body.length<U64):=hJ (by unfold U64;omega)
  have HL:=hJ (qat hn.out)
  have hw:IntKind.u64.wrap (body.length:Int)=(body.length:Int):=qcy hn.out
  have E0:Hid (Ext w (w.alloc (.cells #[.int .u8 65,.int .u8 71,.int .u8 (k:Int)] 5))):=hJ (Ext.new _ _)
  have P0:=hJ (qrv k hk.2 w)
  go_enter Tryz.func165,Tryz.ntmps165
  go_wp2_with fail
  refine(qbO body.length _ hn).mono ?_
  rintro e w1 ⟨A1,c1,rfl,hc1,hm1,ho1,hx1⟩
  have X1:=hJ (E0.out.trans hx1)
  have P1:=hJ (P0.out.ext hx1)
  have R1:=hJ ho1.row
  clear ho1 hx1 P0 E0;go_wp2_with (first
   | (at_builtin;refine qdx rfl (.tmp 20) (.tmp 24) rfl _ w _ 3 3 [65,71,UInt8.ofNat k] (by rfl) A1 (qaS body.length).length c1 (qaS body.length) (by rfl) rfl R1 P1 (by have:=HL.out;simp;omega) X1 ?_;intro A2 c2 w2 h21 h22 HO2 X2;have R2:=hJ (H.out.ext X2.out))
   | (at_builtin;refine qdx rfl (.tmp 26) (.tmp 27) rfl _ w A2 _ c2 ([65,71,UInt8.ofNat k]++qaS body.length) (by rfl) A body.length c body (by rfl) rfl R2 HO2 (by have:=HL.out;simp;omega) X2 ?_;intro A3 c3 w3 h31 h32 HO3 X3;rw[show [65,71,UInt8.ofNat k]++qaS body.length++body=qd2 k body from rfl] at h31 HO3⊢;have hpl:(qd2 k body).length≤100000100:=(by have:=HL.out;unfold qd2;simp;omega);have HR3:=hJ HO3.out.row)
   | fail)
  refine(qif A3 c3 (qd2 k body) w3 HR3.out (by omega)).mono ?_
  rintro e w4 ⟨rfl,rfl⟩
  go_wp2_with fail
  refine(qpV (qf5 (qd2 k body)) w3).mono ?_
  rintro e w5 ⟨A5,c5,rfl,hc5,hm5,ho5,hx5⟩
  have X5:=hJ (X3.out.trans hx5)
  have HO5:=hJ (HO3.out.ext hx5)
  have R5:=hJ ho5.row
  clear ho5 hx5;go_wp2_with (first
   | (at_builtin;refine qdx rfl (.tmp 29) (.tmp 32) rfl _ w A3 _ c3 (qd2 k body) (by rfl) A5 _ c5 (le4 (qf5 (qd2 k body))) (by rfl) rfl R5 HO5 (by simp[le4];omega) X5 ?_;intro A6 c6 w6 h61 h62 HO6 X6;rw[←HF.out] at h61 HO6⊢)
   | fail)
  go_ret2
  exact⟨0,A6,c6,rfl,h61,h62,HO6.out,X6.out⟩
 ·have HF:Hid (qa2 k body=[]):=hJ (by unfold qa2;rw[if_neg hb])
  go_enter Tryz.func165,Tryz.ntmps165
  go_wp2;go_ret2
  rw[HF.out]
  exact⟨1,none,0,rfl,Nat.le_refl _,Nat.zero_le _,Own.nil _ _ _,Ext.refl _⟩
set_option maxHeartbeats 1000000 in
theorem qhW(k:Nat)(s:Int)(A:Option Addr)(c:Nat)(body:List UInt8)(w:World)(h:Row w A (qad body))(hl:body.length≤90000000)(hk:1≤k∧k≤255) :
  Calls Tryz.prog 106 #[Jq (k:Int),Jq s,.slice A body.length c] w (GivesB w (qa2 k (qav [s]++body))):=by
 have H:=hJ h;clear h
 have hui:=qf1 s
 have hn:Hid (uN s<U64):=hJ (qic s)
 have HL:=hJ (qat hn.out)
 have hnum:qav [s]=qaS (uN s):=by simp[qav]
 rw[hnum];clear hnum
 go_enter Tryz.func106,Tryz.ntmps106
 go_wp2_with fail
 rw[←hui]
 refine(qbO (uN s) _ hn).mono ?_
 rintro e w1 ⟨A1,c1,rfl,hc1,hm1,ho1,hx1⟩
 have HO1:=hJ ho1;have X1:=hJ hx1
 have R1:=hJ (H.out.ext hx1)
 clear ho1 hx1 hui;go_wp2_with (first
  | (at_builtin;refine qdx rfl (.tmp 13) (.tmp 14) rfl _ w A1 _ c1 (qaS (uN s)) (by rfl) A body.length c body (by rfl) rfl R1 HO1 (by have:=HL.out;omega) X1 ?_;intro A2 c2 w2 h21 h22 HO2 X2;have R2:=hJ HO2.out.row;have hl2:(qaS (uN s)++body).length≤100000000:=(by have:=HL.out;simp;omega);generalize qaS (uN s)++body=B2 at *)
  | fail)
 refine(qmF k A2 c2 B2 w2 R2.out hl2 hk).mono ?_
 rintro e w3 ⟨err,A3,c3,rfl,h31,h32,ho3,hx3⟩
 have X3:=hJ (X2.out.trans hx3)
 have HO3:=hJ (ho3.base (B':=w.heap.size) X2.out.size)
 clear ho3 hx3;go_wp2;go_ret
 exact⟨A3,c3,rfl,h31,h32,HO3.out,X3.out⟩
set_option maxHeartbeats 1000000 in
theorem qil(s n:Int)(w:World):Calls Tryz.prog 37 #[Jq s,Jq n] w (GivesB w (qa2 13 (qav [s,n]))):=by
 have hui:=qf1 n
 have hn:Hid (uN n<U64):=hJ (qic n)
 have HL:=hJ (qat hn.out)
 have hnum:qav [s,n]=qav [s]++qaS (uN n):=by simp[qav]
 rw[hnum];clear hnum
 go_enter Tryz.func37,Tryz.ntmps37
 go_wp2_with fail
 rw[←hui]
 refine(qbO (uN n) _ hn).mono ?_
 rintro e w1 ⟨A1,c1,rfl,hc1,hm1,ho1,hx1⟩
 have R1:=hJ ho1.row;have X1:=hJ hx1
 clear ho1 hx1 hui;go_wp2_with fail
 refine(qhW 13 s A1 c1 (qaS (uN n)) w1 R1.out (by have:=HL.out;omega) (by omega)).mono ?_
 rintro e w2 ⟨A2,c2,rfl,h21,h22,ho2,hx2⟩
 have X2:=hJ (X1.out.trans hx2)
 have HO2:=hJ (ho2.base (B':=w.heap.size) X1.out.size)
 clear ho2 hx2;go_wp2;go_ret
 exact⟨A2,c2,rfl,h21,h22,HO2.out,X2.out⟩
set_option maxHeartbeats 1000000 in
theorem qjZ(A:Option Addr)(c:Nat)(l:List Ent)(w:World)(h:Row w A (qaz.cells l))(hn:l.length≤2000)(hp:∀e∈l,e.p.length≤6000) :
  Calls Tryz.prog 107 #[.slice A l.length c] w (GivesB w (qbd l)):=by
 have H:=hJ h;have HP:=hJ hp
 clear h hp;have hw:IntKind.u64.wrap (l.length:Int)=(l.length:Int):=qcy (by unfold U64;omega)
 have hln:Hid (l.length<U64):=hJ (by unfold U64;omega)
 have HL:=hJ (qat hln.out)
 have HS:Hid (qbd l=qaS l.length++(l.take l.length).flatMap qgQ):=hJ (by
  have h1:uN (l.length:Int)=l.length:=by unfold uN;omega
  unfold qbd;rw[List.take_length];simp[qav,h1])
 go_enter Tryz.func107,Tryz.ntmps107
 go_wp2_with fail
 refine(qbO l.length _ hln).mono ?_
 rintro e w1 ⟨A1,c1,rfl,hc1,hm1,ho1,hx1⟩
 have HO1:=hJ ho1;have X1:=hJ hx1
 clear ho1 hx1;go_wp2;go_loopw [3,4] (fun v i wr=>∃(k:Nat) (A':Option Addr) (c':Nat) (S:List UInt8),k≤l.length∧i=Jq k∧v=.slice A' S.length c'∧S.length≤10+6044*k+1∧Hid (S=qaS l.length++(l.take k).flatMap qgQ)∧S.length≤c'∧c'≤maxLen∧Hid (Own wr w.heap.size 5 (.slice A' S.length c') (qad S))∧Hid (Ext w wr)) (fun _ i _=>l.length - (intOf i).toNat)
 case atStart=>exact⟨0,A1,c1,qaS l.length,Nat.zero_le _,rfl,rfl,by have:=HL.out;omega,hJ (by simp),hc1,hm1,HO1,X1⟩
 case round=>
  obtain⟨k,A',c',S,hk,rfl,rfl,hS,HE,h1,h2,HO,HX⟩:=hrel
  by_cases hlt:k<l.length
  ·obtain⟨b,off,e,rfl,hb,k0,k1,k2,k3,HG⟩:=qbG (H.out.ext HX.out) hlt
   have hb':=hJ hb
   have hep:e.p.length≤6000:=HP.out e (List.mem_of_getElem? HG.out)
   have hu0:=qf1 e.v
   have hu1:=qf1 e.o
   have hu2:=qf1 e.q
   have n0:Hid (uN e.v<U64):=hJ (qic _)
   have n1:Hid (uN e.o<U64):=hJ (qic _)
   have n2:Hid (uN e.q<U64):=hJ (qic _)
   have L0:=hJ (qat n0.out)
   have L1:=hJ (qat n1.out)
   have L2:=hJ (qat n2.out)
   have HSn:Hid (S++qaS (uN e.v)++qaS (uN e.o)++qaS (uN e.q)++qd5 e.p=qaS l.length++(l.take (k+1)).flatMap qgQ):=hJ (by
    rw[qiU HG.out,HE.out];simp[qgQ,qav])
   have hfl:(S++qaS (uN e.v)++qaS (uN e.o)++qaS (uN e.q)++qd5 e.p).length≤10+6044*(k+1)+1:=by
    have a1:=qkM (e:=e) hep (by omega)
    have a2:(S++qaS (uN e.v)++qaS (uN e.o)++qaS (uN e.q)++qd5 e.p).length=S.length+(qgQ e).length:=by simp[qgQ,qav]<;>omega
    omega
   go_wp2_with fail
   rw[←hu0]
   refine(qbO (uN e.v) _ n0).mono ?_
   rintro e1 w2 ⟨A2,c2,rfl,hc2,hm2,ho2,hx2⟩
   have X2:=hJ (HX.out.trans hx2)
   have P2:=hJ (HO.out.ext hx2)
   have R2:=hJ ho2.row
   have j0:=X2
   clear ho2 hx2 hu0 hb k0 k1 k2 k3;obtain⟨b',off',e',hA2,hb2,k0,k1,k2,k3,HG2⟩:=qbG (H.out.ext X2.out) hlt
   cases hA2
   obtain rfl:e'=e:=by have:=HG.out;rw[HG2.out] at this;exact Option.some.inj this
   go_wp2_with (first
    | (at_builtin;refine qdx rfl (.tmp 15) (.tmp 22) rfl _ w A' _ c' S (by rfl) A2 _ c2 (qaS (uN e'.v)) (by rfl) rfl R2 P2 (by have:=L0.out;omega) X2 ?_;intro A3 c3 w3 h31 h32 HO3 X3;clear k0 k1 k2 k3 hb2 HG2;obtain⟨b3,off3,e3,hA3,hb3,k0,k1,k2,k3,HG3⟩:=qbG (H.out.ext X3.out) hlt;cases hA3;obtain rfl:e3=e':=(by have:=HG.out;rw[HG3.out] at this;exact Option.some.inj this);have s3:(S++qaS (uN e3.v)).length≤20000000:=(by have:=L0.out;simp;omega);generalize hS3:S++qaS (uN e3.v)=S3 at *)
    | fail)
   rw[←hu1]
   refine(qbO (uN e3.o) _ n1).mono ?_
   rintro e1 w4 ⟨A4,c4,rfl,hc4,hm4,ho4,hx4⟩
   have X4:=hJ (X3.out.trans hx4)
   have P4:=hJ (HO3.out.ext hx4)
   have R4:=hJ ho4.row
   clear ho4 hx4 hu1 hb3 k0 k1 k2 k3;obtain⟨b4,off4,e4,hA4,hb4,k0,k1,k2,k3,HG4⟩:=qbG (H.out.ext X4.out) hlt
   cases hA4
   obtain rfl:e4=e3:=by have:=HG.out;rw[HG4.out] at this;exact Option.some.inj this
   go_wp2_with (first
    | (at_builtin;refine qdx rfl (.tmp 24) (.tmp 31) rfl _ w A3 _ c3 S3 (by rfl) A4 _ c4 (qaS (uN e4.o)) (by rfl) rfl R4 P4 (by have:=L1.out;omega) X4 ?_;intro A5 c5 w5 h51 h52 HO5 X5;clear k0 k1 k2 k3 hb4 HG4;obtain⟨b5,off5,e5,hA5,hb5,k0,k1,k2,k3,HG5⟩:=qbG (H.out.ext X5.out) hlt;cases hA5;obtain rfl:e5=e4:=(by have:=HG.out;rw[HG5.out] at this;exact Option.some.inj this);have s5:(S3++qaS (uN e5.o)).length≤20000100:=(by have:=L1.out;simp;omega);generalize hS5:S3++qaS (uN e5.o)=S5 at *)
    | fail)
   rw[←hu2]
   refine(qbO (uN e5.q) _ n2).mono ?_
   rintro e1 w6 ⟨A6,c6,rfl,hc6,hm6,ho6,hx6⟩
   have X6:=hJ (X5.out.trans hx6)
   have P6:=hJ (HO5.out.ext hx6)
   have R6:=hJ ho6.row
   clear ho6 hx6 hu2 hb5 k0 k1 k2 k3;obtain⟨b6,off6,e6,hA6,hb6,k0,k1,k2,k3,HG6⟩:=qbG (H.out.ext X6.out) hlt
   cases hA6
   obtain rfl:e6=e5:=by have:=HG.out;rw[HG6.out] at this;exact Option.some.inj this
   go_wp2_with (first
    | (at_builtin;refine qdx rfl (.tmp 33) (.tmp 40) rfl _ w A5 _ c5 S5 (by rfl) A6 _ c6 (qaS (uN e6.q)) (by rfl) rfl R6 P6 (by have:=L2.out;omega) X6 ?_;intro A7 c7 w7 h71 h72 HO7 X7;clear k0 k1 k2 k3 hb6 HG6;obtain⟨b7,off7,e7,hA7,hb7,k0,k1,k2,k3,HG7⟩:=qbG (H.out.ext X7.out) hlt;cases hA7;obtain rfl:e7=e6:=(by have:=HG.out;rw[HG7.out] at this;exact Option.some.inj this);have s7:(S5++qaS (uN e7.q)).length≤20000200:=(by have:=L2.out;simp;omega);generalize hS7:S5++qaS (uN e7.q)=S7 at *)
    | fail)
   refine(qjT e7.p _ (by omega)).mono ?_
   rintro e1 w8 ⟨A8,c8,rfl,hc8,hm8,ho8,hx8⟩
   have X8:=hJ (X7.out.trans hx8)
   have P8:=hJ (HO7.out.ext hx8)
   have R8:=hJ ho8.row
   have s8:(qd5 e7.p).length≤6100:=by have:=qat (v:=e7.p.length) (by unfold U64;omega);unfold qd5;simp;omega
   clear ho8 hx8 k0 k1 k2 k3;go_wp2_with (first
    | (at_builtin;refine qdx rfl (.tmp 42) (.tmp 48) rfl _ w A7 _ c7 S7 (by rfl) A8 _ c8 (qd5 e7.p) (by rfl) rfl R8 P8 (by omega) X8 ?_;intro A9 c9 w9 h91 h92 HO9 X9;generalize hS9:S7++qd5 e7.p=S9 at *)
    | fail)
   go_roundw
   case rel=>exact⟨k+1,A9,c9,S9,by omega,by go_num,rfl,hfl,HSn,h91,h92,HO9,X9⟩
   case measure=>simp[intOf];omega
  ·have hkl:k=l.length:=by omega
   subst hkl
   go_wp2;go_ret
   have hES:=HE.out
   rw[←HS.out] at hES
   subst hES
   exact⟨A',c',rfl,h1,h2,HO.out,HX.out⟩
set_option maxHeartbeats 1000000 in
theorem qgg(s f t:Int)(A:Option Addr)(c:Nat)(l:List Ent)(w:World)(h:Row w A (qaz.cells l))(hn:l.length≤2000)(hp:∀e∈l,e.p.length≤6000) :
  Calls Tryz.prog 36 #[Jq s,Jq f,Jq t,.slice A l.length c] w (GivesB w (qa2 12 (qav [s,f,t]++qbd l))):=by
 have H:=hJ h;have HP:=hJ hp
 clear h hp;have hu0:=qf1 f
 have hu1:=qf1 t
 have n0:Hid (uN f<U64):=hJ (qic _)
 have n1:Hid (uN t<U64):=hJ (qic _)
 have L0:=hJ (qat n0.out)
 have L1:=hJ (qat n1.out)
 have hel:(qbd l).length≤12100000:=by
  have h1:=qfg HP.out
  have h2:=qaD [(l.length:Int)]
  unfold qbd
  simp only[List.length_append,List.length_cons,List.length_nil] at *
  omega
 have HS:Hid (qav [s,f,t]++qbd l=qav [s]++(qaS (uN f)++qaS (uN t)++qbd l)):=hJ (by simp[qav])
 go_enter Tryz.func36,Tryz.ntmps36
 go_wp2_with fail
 rw[←hu0]
 refine(qbO (uN f) _ n0).mono ?_
 rintro e w1 ⟨A1,c1,rfl,hc1,hm1,ho1,hx1⟩
 have HO1:=hJ ho1;have X1:=hJ hx1
 clear ho1 hx1 hu0;go_wp2_with fail
 rw[←hu1]
 refine(qbO (uN t) _ n1).mono ?_
 rintro e w2 ⟨A2,c2,rfl,hc2,hm2,ho2,hx2⟩
 have X2:=hJ (X1.out.trans hx2)
 have P2:=hJ (HO1.out.ext hx2)
 have R2:=hJ ho2.row
 clear ho2 hx2 hu1;go_wp2_with (first
  | (at_builtin;refine qdx rfl (.tmp 12) (.tmp 15) rfl _ w A1 _ c1 (qaS (uN f)) (by rfl) A2 _ c2 (qaS (uN t)) (by rfl) rfl R2 P2 (by have:=L0.out;have:=L1.out;omega) X2 ?_;intro A3 c3 w3 h31 h32 HO3 X3;have s3:(qaS (uN f)++qaS (uN t)).length≤100:=(by have:=L0.out;have:=L1.out;simp;omega);generalize hS3:qaS (uN f)++qaS (uN t)=S3 at *)
  | fail)
 refine(qjZ A c l w3 (H.out.ext X3.out) hn HP.out).mono ?_
 rintro e w4 ⟨A4,c4,rfl,hc4,hm4,ho4,hx4⟩
 have X4:=hJ (X3.out.trans hx4)
 have P4:=hJ (HO3.out.ext hx4)
 have R4:=hJ ho4.row
 clear ho4 hx4;go_wp2_with (first
  | (at_builtin;refine qdx rfl (.tmp 18) (.tmp 20) rfl _ w A3 _ c3 S3 (by rfl) A4 _ c4 (qbd l) (by rfl) rfl R4 P4 (by omega) X4 ?_;intro A5 c5 w5 h51 h52 HO5 X5;have s5:(S3++qbd l).length≤90000000:=(by simp;omega);generalize hS5:S3++qbd l=S5 at *)
  | fail)
 refine(qhW 12 s A5 c5 S5 w5 HO5.out.row s5 (by omega)).mono ?_
 rintro e w6 ⟨A6,c6,rfl,h61,h62,ho6,hx6⟩
 have X6:=hJ (X5.out.trans hx6)
 have HO6:=hJ (ho6.base (B':=w.heap.size) X5.out.size)
 clear ho6 hx6;rw[←HS.out] at h61 HO6⊢
 go_wp2;go_ret
 exact⟨A6,c6,rfl,h61,h62,HO6.out,X6.out⟩
def frA:List UInt8:=[65,71,12,9,0,1,0,1,0,1,1,1,121]++le4 (qf5 [65,71,12,9,0,1,0,1,0,1,1,1,121])
def frB:List UInt8:=[65,71,13,2,0,2]++le4 (qf5 [65,71,13,2,0,2])
theorem qgu{n:Nat}(h:n<128):qaS (uN (n:Int))=[UInt8.ofNat n]:=by
 have:uN (n:Int)=n:=by unfold uN;omega
 rw[this,qee h]
theorem qpY:qa2 12 (qav [0,1,0]++qbd [⟨0,1,1,[121]⟩])=frA:=by
 have e0:qaS (uN 0)=[0]:=qgu (n:=0) (by omega)
 have e1:qaS (uN 1)=[1]:=qgu (n:=1) (by omega)
 have e2:qaS 1=[1]:=qee (by omega)
 have e9:qaS 9=[9]:=qee (by omega)
 have hb:qav [0,1,0]++qbd [⟨0,1,1,[121]⟩]=[0,1,0,1,0,1,1,1,121]:=by
  simp[qav,qbd,qgQ,qd5,e0,e1,e2]
 rw[hb]
 unfold qa2
 rw[if_pos (by decide)]
 have hp:qd2 12 [0,1,0,1,0,1,1,1,121]=[65,71,12,9,0,1,0,1,0,1,1,1,121]:=by
  show [65,71,UInt8.ofNat 12]++qaS 9++_=_
  rw[e9];rfl
 rw[hp];rfl
theorem qoZ:qa2 13 (qav [0,2])=frB:=by
 have e0:qaS (uN 0)=[0]:=qgu (n:=0) (by omega)
 have e2:qaS (uN 2)=[2]:=qgu (n:=2) (by omega)
 have e9:qaS 2=[2]:=qee (by omega)
 have hb:qav [0,2]=[0,2]:=by
  simp[qav,e0,e2]
 rw[hb]
 unfold qa2
 rw[if_pos (by decide)]
 have hp:qd2 13 [0,2]=[65,71,13,2,0,2]:=by
  show [65,71,UInt8.ofNat 13]++qaS 2++_=_
  rw[e9];rfl
 rw[hp];rfl
theorem qoO:qa3 frA=some ⟨12,0,1,0,[],[⟨0,1,1,[121]⟩]⟩:=by decide +kernel
theorem qo1:qa3 frB=some ⟨13,0,2,0,[],[]⟩:=by decide +kernel
def gA:St:=(qba (0,[1,2,3]) 1).1
def gB:St:=(qba (0,[1,2,3]) 2).1
def gS:St:=(qba (0,[4]) 4).1
def sA:St:=(qaY gA [121]).1
def sS:St:=(qaY gS [120]).1
def qtO:Msg:=⟨12,0,1,0,[],[⟨0,1,1,[121]⟩]⟩
def qtX:Msg:=⟨13,0,2,0,[],[]⟩
def tS:Cs:=qbM sS
def rB:Cs:=qaM ⟨gB,[],[]⟩ qtO
def rA:Cs:=qcC ⟨sA,[],[]⟩ 2 2
theorem qj2:(qba (0,[1,2,3]) 1).2=0∧(qba (0,[1,2,3]) 2).2=0∧(qba (0,[4]) 4).2=0:=by decide +kernel
theorem qot:(qaY gA [121]).2=0∧(qaY gS [120]).2=0:=by decide +kernel
theorem qr2:qbp gA=true∧qbp gB=true∧qbp gS=true:=by decide +kernel
theorem qn4:qbp sA=true∧qbp sS=true:=by decide +kernel
theorem qta:qaN gB=false∧1=qbl (qaf gB.views)∧qtO.num=(qaf gB.views).1:=by decide +kernel
theorem qsZ:qaN sA=true∧qbr (qaf sA.views).2 2=true∧qtX.num=(qaf sA.views).1∧sA.marks=[]:=by decide +kernel
theorem qsu:tS.dl.length=2∧(tS.dl[1]?).map (fun e=>(e.p,e.o))=some ([120],4)∧tS.s.pend=[]:=by decide +kernel
theorem qtb:rB.s.log.length=2∧rB.s.stable=0:=by decide +kernel
theorem qs7:rA.dl.length=2∧rA.s.stable=2:=by decide +kernel
theorem qtF:qaP ⟨gB,[],[]⟩ 1 ⟨12,0,1,0,[],[⟨0,1,1,[121]⟩]⟩=rB:=by decide +kernel
theorem qtv:qaP ⟨sA,[],[]⟩ 2 ⟨13,0,2,0,[],[]⟩=rA:=by decide +kernel
end Go.Proofs.YtponbabbabnaeaaGreat
