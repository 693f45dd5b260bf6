/- Part 27 of the proof: contracts of functions that the statement reaches. Conditions: as each theorem says. -/
import Derived.Test.YtponbabbabnaeaaGreatQe01
import Derived.Test.YtponbabbabnaeaaGreatQe16
import Derived.Test.YtponbabbabnaeaaGreatQe26
import Derived.Test.YtponbabbabnaeaaGreatQe24
import Derived.Test.YtponbabbabnaeaaGreatQe04
set_option maxRecDepth 100000
namespace Go.Proofs.YtponbabbabnaeaaGreat
open Go.RowKit
theorem qtY:qal gB 1 frA=(rB,0):=by
 rw[qfE qr2.2.1 (by decide) (by decide +kernel),qoO]
 simp only
 rw[if_pos (show (0:Int)=(qaf gB.views).1 from qta.2.2)]
 exact congrArg (·,0) qtF
theorem qtW:qal sA 2 frB=(rA,0):=by
 rw[qfE qn4.1 (by decide) (by decide +kernel),qo1]
 simp only
 rw[if_pos (show (0:Int)=(qaf sA.views).1 from qsZ.2.2.1)]
 exact congrArg (·,0) qtv
theorem qq1(b:BM)(fr:Int)(A:Option Addr)(c:Nat)(frame:List UInt8)(r:Cs)(er:Int)(w:World)(h:b.Reads w)(hf:b.Fits)(hrow:Row w A (qad frame))(hc:frame.length≤c)(hl:frame.length≤1000000)(he:qal b.st fr frame=(r,er)) :
  Calls Tryz.prog 16 #[.agg b.cells,Jq fr,.slice A frame.length c] w (qkV w r er):=by
 have:=qeY b fr A c frame w h hf hrow hc hl
 rw[he] at this
 exact this
set_option maxHeartbeats 4000000 in
theorem qj4(w:World):Calls Tryz.prog 10 #[] w (fun e w'=>e=.returned (.bool true)∧Ext w w'):=by
 have XX:Hid (Ext w (w.alloc (.cells #[Jq 4] 3))):=hJ (Ext.new _ _)
 go_enter Tryz.func10,Tryz.ntmps10
 go_wp2_with fail
 refine(qc2 0 (some (Pq w.heap.size 0)) 1 [4] 4 _ (qff 4 w) (by simp)).mono ?_
 rintro en w1 ⟨b0,rfl,hst,hrd,hft,hx,hn⟩
 have NW_b0:=hJ hn
 have ST_b0:Hid (b0.st=gS):=hJ (hst.trans (rfl))
 clear hst hn;rw[qj2.2.2]
 clear NW_b0;replace XX:=hJ (XX.out.trans hx)
 clear hx;have R_b0:=hJ hrd;have FT_b0:=hJ hft
 clear hrd hft;unfold BM.cells
 have E1:Hid (Ext w1 (w1.alloc (.cells #[Jq b0.self,.slice b0.Av b0.vs.length b0.cv,Jq b0.base,.slice b0.Al b0.log.length b0.cl,Jq b0.stable,Jq b0.sent,.slice b0.Ap b0.pend.length b0.cp,.slice b0.Am b0.marks.length b0.cm,.slice b0.Af b0.fls.length b0.cf] 28))):=hJ (Ext.new _ _)
 have F_b0_s:Hid (b0.Far w1.heap.size):=hJ (R_b0.out.far (Nat.le_refl _))
 have LW_s:Hid (w.heap.size≤w1.heap.size):=hJ XX.out.size
 replace R_b0:=hJ (R_b0.out.ext E1.out)
 replace XX:=hJ (XX.out.trans E1.out)
 have B_s:Hid (BIs (w1.alloc (.cells #[Jq b0.self,.slice b0.Av b0.vs.length b0.cv,Jq b0.base,.slice b0.Al b0.log.length b0.cl,Jq b0.stable,Jq b0.sent,.slice b0.Ap b0.pend.length b0.cp,.slice b0.Am b0.marks.length b0.cm,.slice b0.Af b0.fls.length b0.cf] 28)) w1.heap.size #[Jq b0.self,.slice b0.Av b0.vs.length b0.cv,Jq b0.base,.slice b0.Al b0.log.length b0.cl,Jq b0.stable,Jq b0.sent,.slice b0.Ap b0.pend.length b0.cp,.slice b0.Am b0.marks.length b0.cm,.slice b0.Af b0.fls.length b0.cf] 28):=hJ (BIs.new _ _ _)
 clear E1;go_upto_region 2 with fail
 generalize (w1.alloc (.cells #[Jq b0.self,.slice b0.Av b0.vs.length b0.cv,Jq b0.base,.slice b0.Al b0.log.length b0.cl,Jq b0.stable,Jq b0.sent,.slice b0.Ap b0.pend.length b0.cp,.slice b0.Am b0.marks.length b0.cm,.slice b0.Af b0.fls.length b0.cf] 28))=W1 at *
 generalize w1.heap.size=r_s at *
 obtain⟨q0,q1,q2,q3,q4,q5,q6,q7,q8⟩:=qbC B_s.out
 go_wp2_with fail
 clear q0 q1 q2 q3 q4 q5 q6 q7 q8;refine(qfD b0 [120] _ R_b0.out FT_b0.out (by simp)).mono ?_
 rintro en w2 ⟨b1,rfl,hst,hrd,hft,hx,hn⟩
 have NW_b1:=hJ hn
 have ST_b1:Hid (b1.st=sS):=hJ (hst.trans (by rw[ST_b0.out];rfl))
 clear hst hn;rw[show (qaY b0.st [120]).2=0 from by rw[ST_b0.out];exact qot.2]
 have F_b1_s:Hid (b1.Far r_s):=hJ (NW_b1.out.far B_s.out.lt)
 clear NW_b1;replace B_s:=hJ (B_s.out.ext hx)
 replace R_b0:=hJ (R_b0.out.ext hx)
 replace XX:=hJ (XX.out.trans hx)
 clear hx;have R_b1:=hJ hrd;have FT_b1:=hJ hft
 clear hrd hft;clear R_b0 FT_b0 ST_b0;unfold BM.cells
 obtain⟨y0,y1,y2,y3,y4,y5,y6,y7,y8⟩:=qbC B_s.out
 obtain⟨z0,z1,z2,z3,z4,z5,z6,z7,z8⟩:=B_s.out.free9
 go_upto_region 3 with fail
 have W9:Hid (Wrote r_s w2 (((((((((w2.setCell (Pq r_s 0) (Jq b1.self)).setCell (Pq r_s 1) (.slice b1.Av b1.vs.length b1.cv)).setCell (Pq r_s 2) (Jq b1.base)).setCell (Pq r_s 3) (.slice b1.Al b1.log.length b1.cl)).setCell (Pq r_s 4) (Jq b1.stable)).setCell (Pq r_s 5) (Jq b1.sent)).setCell (Pq r_s 6) (.slice b1.Ap b1.pend.length b1.cp)).setCell (Pq r_s 7) (.slice b1.Am b1.marks.length b1.cm)).setCell (Pq r_s 8) (.slice b1.Af b1.fls.length b1.cf))):=hJ qak
 have BN:Hid (BIs (((((((((w2.setCell (Pq r_s 0) (Jq b1.self)).setCell (Pq r_s 1) (.slice b1.Av b1.vs.length b1.cv)).setCell (Pq r_s 2) (Jq b1.base)).setCell (Pq r_s 3) (.slice b1.Al b1.log.length b1.cl)).setCell (Pq r_s 4) (Jq b1.stable)).setCell (Pq r_s 5) (Jq b1.sent)).setCell (Pq r_s 6) (.slice b1.Ap b1.pend.length b1.cp)).setCell (Pq r_s 7) (.slice b1.Am b1.marks.length b1.cm)).setCell (Pq r_s 8) (.slice b1.Af b1.fls.length b1.cf)) r_s #[Jq b1.self,.slice b1.Av b1.vs.length b1.cv,Jq b1.base,.slice b1.Al b1.log.length b1.cl,Jq b1.stable,Jq b1.sent,.slice b1.Ap b1.pend.length b1.cp,.slice b1.Am b1.marks.length b1.cm,.slice b1.Af b1.fls.length b1.cf] 28):=hJ (qaJ B_s.out)
 clear y0 y1 y2 y3 y4 y5 y6 y7 y8;clear z0 z1 z2 z3 z4 z5 z6 z7 z8;replace B_s:=hJ (B_s.out)
 replace R_b1:=hJ (R_b1.out.wrote F_b1_s.out W9.out)
 replace XX:=hJ (W9.out.ext XX.out LW_s.out)
 replace B_s:=BN
 clear BN W9;generalize (((((((((w2.setCell (Pq r_s 0) (Jq b1.self)).setCell (Pq r_s 1) (.slice b1.Av b1.vs.length b1.cv)).setCell (Pq r_s 2) (Jq b1.base)).setCell (Pq r_s 3) (.slice b1.Al b1.log.length b1.cl)).setCell (Pq r_s 4) (Jq b1.stable)).setCell (Pq r_s 5) (Jq b1.sent)).setCell (Pq r_s 6) (.slice b1.Ap b1.pend.length b1.cp)).setCell (Pq r_s 7) (.slice b1.Am b1.marks.length b1.cm)).setCell (Pq r_s 8) (.slice b1.Af b1.fls.length b1.cf))=W2 at *
 obtain⟨q0,q1,q2,q3,q4,q5,q6,q7,q8⟩:=qbC B_s.out
 go_wp2_with fail
 clear q0 q1 q2 q3 q4 q5 q6 q7 q8;refine(qla b1 _ R_b1.out FT_b1.out (by rw[ST_b1.out];exact qn4.2)).mono ?_
 rintro en w3 ⟨m1,rfl,hcs,hrd,hft,hpk,hdl,hx,hn,hnd,_⟩
 have CS_m1:Hid (m1.cs=tS):=hJ (hcs.trans (by rw[ST_b1.out];rfl))
 have F_m1_s:Hid (m1.b.Far r_s):=hJ (hn.far B_s.out.lt)
 have FR_m1_s:=hJ (hnd.far B_s.out.lt)
 replace B_s:=hJ (B_s.out.ext hx)
 replace R_b1:=hJ (R_b1.out.ext hx)
 replace XX:=hJ (XX.out.trans hx)
 have R_m1:=hJ hrd;have W_m1:=hJ hdl
 clear hx hcs hrd hft hpk hdl hn hnd;unfold BM.cells
 clear R_b1 FT_b1 ST_b1;obtain⟨y0,y1,y2,y3,y4,y5,y6,y7,y8⟩:=qbC B_s.out
 obtain⟨z0,z1,z2,z3,z4,z5,z6,z7,z8⟩:=B_s.out.free9
 go_upto_region 4 with fail
 have W9:Hid (Wrote r_s w3 (((((((((w3.setCell (Pq r_s 0) (Jq m1.b.self)).setCell (Pq r_s 1) (.slice m1.b.Av m1.b.vs.length m1.b.cv)).setCell (Pq r_s 2) (Jq m1.b.base)).setCell (Pq r_s 3) (.slice m1.b.Al m1.b.log.length m1.b.cl)).setCell (Pq r_s 4) (Jq m1.b.stable)).setCell (Pq r_s 5) (Jq m1.b.sent)).setCell (Pq r_s 6) (.slice m1.b.Ap m1.b.pend.length m1.b.cp)).setCell (Pq r_s 7) (.slice m1.b.Am m1.b.marks.length m1.b.cm)).setCell (Pq r_s 8) (.slice m1.b.Af m1.b.fls.length m1.b.cf))):=hJ qak
 have BN:Hid (BIs (((((((((w3.setCell (Pq r_s 0) (Jq m1.b.self)).setCell (Pq r_s 1) (.slice m1.b.Av m1.b.vs.length m1.b.cv)).setCell (Pq r_s 2) (Jq m1.b.base)).setCell (Pq r_s 3) (.slice m1.b.Al m1.b.log.length m1.b.cl)).setCell (Pq r_s 4) (Jq m1.b.stable)).setCell (Pq r_s 5) (Jq m1.b.sent)).setCell (Pq r_s 6) (.slice m1.b.Ap m1.b.pend.length m1.b.cp)).setCell (Pq r_s 7) (.slice m1.b.Am m1.b.marks.length m1.b.cm)).setCell (Pq r_s 8) (.slice m1.b.Af m1.b.fls.length m1.b.cf)) r_s #[Jq m1.b.self,.slice m1.b.Av m1.b.vs.length m1.b.cv,Jq m1.b.base,.slice m1.b.Al m1.b.log.length m1.b.cl,Jq m1.b.stable,Jq m1.b.sent,.slice m1.b.Ap m1.b.pend.length m1.b.cp,.slice m1.b.Am m1.b.marks.length m1.b.cm,.slice m1.b.Af m1.b.fls.length m1.b.cf] 28):=hJ (qaJ B_s.out)
 clear y0 y1 y2 y3 y4 y5 y6 y7 y8;clear z0 z1 z2 z3 z4 z5 z6 z7 z8;replace B_s:=hJ (B_s.out)
 replace R_m1:=hJ (R_m1.out.wrote F_m1_s.out W9.out)
 replace W_m1:=hJ (W_m1.out.wrote FR_m1_s.out W9.out)
 replace XX:=hJ (W9.out.ext XX.out LW_s.out)
 replace B_s:=BN
 clear BN W9;generalize (((((((((w3.setCell (Pq r_s 0) (Jq m1.b.self)).setCell (Pq r_s 1) (.slice m1.b.Av m1.b.vs.length m1.b.cv)).setCell (Pq r_s 2) (Jq m1.b.base)).setCell (Pq r_s 3) (.slice m1.b.Al m1.b.log.length m1.b.cl)).setCell (Pq r_s 4) (Jq m1.b.stable)).setCell (Pq r_s 5) (Jq m1.b.sent)).setCell (Pq r_s 6) (.slice m1.b.Ap m1.b.pend.length m1.b.cp)).setCell (Pq r_s 7) (.slice m1.b.Am m1.b.marks.length m1.b.cm)).setCell (Pq r_s 8) (.slice m1.b.Af m1.b.fls.length m1.b.cf))=W3 at *
 clear R_m1;have W_i:Hid (Row ((W3.alloc (.cells #[Jq 1,Jq 2,Jq 3] 3)).alloc (.cells #[Jq 0,.slice (some (Pq W3.heap.size 0)) 3 3] 46)) (some (Pq W3.heap.size 0)) (qam [1,2,3])):=hJ ((qhg 1 2 3 W3).ext (Ext.new _ _))
 have E1:Hid (Ext W3 ((W3.alloc (.cells #[Jq 1,Jq 2,Jq 3] 3)).alloc (.cells #[Jq 0,.slice (some (Pq W3.heap.size 0)) 3 3] 46))):=hJ ((Ext.new _ _).trans (Ext.new _ _))
 replace B_s:=hJ (B_s.out.ext E1.out)
 replace W_m1:=hJ (W_m1.out.ext E1.out)
 replace XX:=hJ (XX.out.trans E1.out)
 have B_v:Hid (BIs ((W3.alloc (.cells #[Jq 1,Jq 2,Jq 3] 3)).alloc (.cells #[Jq 0,.slice (some (Pq W3.heap.size 0)) 3 3] 46)) (W3.heap.size+1) #[Jq 0,.slice (some (Pq W3.heap.size 0)) 3 3] 46):=hJ (by have h:=BIs.new (W3.alloc (.cells #[Jq 1,Jq 2,Jq 3] 3)) #[Jq 0,.slice (some (Pq W3.heap.size 0)) 3 3] 46;rw[show (W3.alloc (.cells #[Jq 1,Jq 2,Jq 3] 3)).heap.size=W3.heap.size+1 from by simp] at h;exact h)
 clear E1;go_upto_region 5 with fail
 generalize ((W3.alloc (.cells #[Jq 1,Jq 2,Jq 3] 3)).alloc (.cells #[Jq 0,.slice (some (Pq W3.heap.size 0)) 3 3] 46))=W4 at *
 generalize W3.heap.size+1=r_v at *
 generalize W3.heap.size=r_i at *
 have v0:W4.cell? (Pq r_v 0)=some (Jq 0):=B_v.out.cell 0
 have v1:W4.cell? (Pq r_v 1)=some (.slice (some (Pq r_i 0)) 3 3):=B_v.out.cell 1
 go_wp2_with fail
 clear v0 v1;refine(qc2 0 (some (Pq r_i 0)) 3 [1,2,3] 1 _ W_i.out (by simp)).mono ?_
 rintro en w5 ⟨a0,rfl,hst,hrd,hft,hx,hn⟩
 have NW_a0:=hJ hn
 have ST_a0:Hid (a0.st=gA):=hJ (hst.trans (rfl))
 clear hst hn;rw[qj2.1]
 have F_a0_s:Hid (a0.Far r_s):=hJ (NW_a0.out.far B_s.out.lt)
 have F_a0_v:Hid (a0.Far r_v):=hJ (NW_a0.out.far B_v.out.lt)
 clear NW_a0;replace B_s:=hJ (B_s.out.ext hx)
 replace B_v:=hJ (B_v.out.ext hx)
 replace W_m1:=hJ (W_m1.out.ext hx)
 replace W_i:=hJ (W_i.out.ext hx)
 replace XX:=hJ (XX.out.trans hx)
 clear hx;have R_a0:=hJ hrd;have FT_a0:=hJ hft
 clear hrd hft;unfold BM.cells
 have E1:Hid (Ext w5 (w5.alloc (.cells #[Jq a0.self,.slice a0.Av a0.vs.length a0.cv,Jq a0.base,.slice a0.Al a0.log.length a0.cl,Jq a0.stable,Jq a0.sent,.slice a0.Ap a0.pend.length a0.cp,.slice a0.Am a0.marks.length a0.cm,.slice a0.Af a0.fls.length a0.cf] 28))):=hJ (Ext.new _ _)
 have L_s_a:Hid (r_s<w5.heap.size):=hJ B_s.out.lt
 have L_v_a:Hid (r_v<w5.heap.size):=hJ B_v.out.lt
 have F_a0_a:Hid (a0.Far w5.heap.size):=hJ (R_a0.out.far (Nat.le_refl _))
 have FR_m1_a:=hJ (Row.far W_m1.out (Nat.le_refl _))
 have FR_i_a:=hJ (Row.far W_i.out (Nat.le_refl _))
 have LW_a:Hid (w.heap.size≤w5.heap.size):=hJ XX.out.size
 replace B_s:=hJ (B_s.out.ext E1.out)
 replace B_v:=hJ (B_v.out.ext E1.out)
 replace R_a0:=hJ (R_a0.out.ext E1.out)
 replace W_m1:=hJ (W_m1.out.ext E1.out)
 replace W_i:=hJ (W_i.out.ext E1.out)
 replace XX:=hJ (XX.out.trans E1.out)
 have B_a:Hid (BIs (w5.alloc (.cells #[Jq a0.self,.slice a0.Av a0.vs.length a0.cv,Jq a0.base,.slice a0.Al a0.log.length a0.cl,Jq a0.stable,Jq a0.sent,.slice a0.Ap a0.pend.length a0.cp,.slice a0.Am a0.marks.length a0.cm,.slice a0.Af a0.fls.length a0.cf] 28)) w5.heap.size #[Jq a0.self,.slice a0.Av a0.vs.length a0.cv,Jq a0.base,.slice a0.Al a0.log.length a0.cl,Jq a0.stable,Jq a0.sent,.slice a0.Ap a0.pend.length a0.cp,.slice a0.Am a0.marks.length a0.cm,.slice a0.Af a0.fls.length a0.cf] 28):=hJ (BIs.new _ _ _)
 clear E1;go_upto_region 6 with fail
 generalize (w5.alloc (.cells #[Jq a0.self,.slice a0.Av a0.vs.length a0.cv,Jq a0.base,.slice a0.Al a0.log.length a0.cl,Jq a0.stable,Jq a0.sent,.slice a0.Ap a0.pend.length a0.cp,.slice a0.Am a0.marks.length a0.cm,.slice a0.Af a0.fls.length a0.cf] 28))=W5 at *
 generalize w5.heap.size=r_a at *
 obtain⟨q0,q1,q2,q3,q4,q5,q6,q7,q8⟩:=qbC B_a.out
 go_wp2_with fail
 clear q0 q1 q2 q3 q4 q5 q6 q7 q8;refine(qfD a0 [121] _ R_a0.out FT_a0.out (by simp)).mono ?_
 rintro en w6 ⟨a1,rfl,hst,hrd,hft,hx,hn⟩
 have NW_a1:=hJ hn
 have ST_a1:Hid (a1.st=sA):=hJ (hst.trans (by rw[ST_a0.out];rfl))
 clear hst hn;rw[show (qaY a0.st [121]).2=0 from by rw[ST_a0.out];exact qot.1]
 have F_a1_s:Hid (a1.Far r_s):=hJ (NW_a1.out.far B_s.out.lt)
 have F_a1_v:Hid (a1.Far r_v):=hJ (NW_a1.out.far B_v.out.lt)
 have F_a1_a:Hid (a1.Far r_a):=hJ (NW_a1.out.far B_a.out.lt)
 clear NW_a1;replace B_s:=hJ (B_s.out.ext hx)
 replace B_v:=hJ (B_v.out.ext hx)
 replace B_a:=hJ (B_a.out.ext hx)
 replace R_a0:=hJ (R_a0.out.ext hx)
 replace W_m1:=hJ (W_m1.out.ext hx)
 replace W_i:=hJ (W_i.out.ext hx)
 replace XX:=hJ (XX.out.trans hx)
 clear hx;have R_a1:=hJ hrd;have FT_a1:=hJ hft
 clear hrd hft;clear R_a0 FT_a0 ST_a0;unfold BM.cells
 obtain⟨y0,y1,y2,y3,y4,y5,y6,y7,y8⟩:=qbC B_a.out
 obtain⟨z0,z1,z2,z3,z4,z5,z6,z7,z8⟩:=B_a.out.free9
 go_upto_region 7 with fail
 have W9:Hid (Wrote r_a w6 (((((((((w6.setCell (Pq r_a 0) (Jq a1.self)).setCell (Pq r_a 1) (.slice a1.Av a1.vs.length a1.cv)).setCell (Pq r_a 2) (Jq a1.base)).setCell (Pq r_a 3) (.slice a1.Al a1.log.length a1.cl)).setCell (Pq r_a 4) (Jq a1.stable)).setCell (Pq r_a 5) (Jq a1.sent)).setCell (Pq r_a 6) (.slice a1.Ap a1.pend.length a1.cp)).setCell (Pq r_a 7) (.slice a1.Am a1.marks.length a1.cm)).setCell (Pq r_a 8) (.slice a1.Af a1.fls.length a1.cf))):=hJ qak
 have BN:Hid (BIs (((((((((w6.setCell (Pq r_a 0) (Jq a1.self)).setCell (Pq r_a 1) (.slice a1.Av a1.vs.length a1.cv)).setCell (Pq r_a 2) (Jq a1.base)).setCell (Pq r_a 3) (.slice a1.Al a1.log.length a1.cl)).setCell (Pq r_a 4) (Jq a1.stable)).setCell (Pq r_a 5) (Jq a1.sent)).setCell (Pq r_a 6) (.slice a1.Ap a1.pend.length a1.cp)).setCell (Pq r_a 7) (.slice a1.Am a1.marks.length a1.cm)).setCell (Pq r_a 8) (.slice a1.Af a1.fls.length a1.cf)) r_a #[Jq a1.self,.slice a1.Av a1.vs.length a1.cv,Jq a1.base,.slice a1.Al a1.log.length a1.cl,Jq a1.stable,Jq a1.sent,.slice a1.Ap a1.pend.length a1.cp,.slice a1.Am a1.marks.length a1.cm,.slice a1.Af a1.fls.length a1.cf] 28):=hJ (qaJ B_a.out)
 clear y0 y1 y2 y3 y4 y5 y6 y7 y8;clear z0 z1 z2 z3 z4 z5 z6 z7 z8;replace B_s:=hJ (B_s.out.wrote (Nat.ne_of_lt L_s_a.out) W9.out)
 replace B_v:=hJ (B_v.out.wrote (Nat.ne_of_lt L_v_a.out) W9.out)
 replace B_a:=hJ (B_a.out)
 replace R_a1:=hJ (R_a1.out.wrote F_a1_a.out W9.out)
 replace W_m1:=hJ (W_m1.out.wrote FR_m1_a.out W9.out)
 replace W_i:=hJ (W_i.out.wrote FR_i_a.out W9.out)
 replace XX:=hJ (W9.out.ext XX.out LW_a.out)
 replace B_a:=BN
 clear BN W9;generalize (((((((((w6.setCell (Pq r_a 0) (Jq a1.self)).setCell (Pq r_a 1) (.slice a1.Av a1.vs.length a1.cv)).setCell (Pq r_a 2) (Jq a1.base)).setCell (Pq r_a 3) (.slice a1.Al a1.log.length a1.cl)).setCell (Pq r_a 4) (Jq a1.stable)).setCell (Pq r_a 5) (Jq a1.sent)).setCell (Pq r_a 6) (.slice a1.Ap a1.pend.length a1.cp)).setCell (Pq r_a 7) (.slice a1.Am a1.marks.length a1.cm)).setCell (Pq r_a 8) (.slice a1.Af a1.fls.length a1.cf))=W6 at *
 have v0:W6.cell? (Pq r_v 0)=some (Jq 0):=B_v.out.cell 0
 have v1:W6.cell? (Pq r_v 1)=some (.slice (some (Pq r_i 0)) 3 3):=B_v.out.cell 1
 go_wp2_with fail
 clear v0 v1;refine(qc2 0 (some (Pq r_i 0)) 3 [1,2,3] 2 _ W_i.out (by simp)).mono ?_
 rintro en w7 ⟨g0,rfl,hst,hrd,hft,hx,hn⟩
 have NW_g0:=hJ hn
 have ST_g0:Hid (g0.st=gB):=hJ (hst.trans (rfl))
 clear hst hn;rw[qj2.2.1]
 have F_g0_s:Hid (g0.Far r_s):=hJ (NW_g0.out.far B_s.out.lt)
 have F_g0_v:Hid (g0.Far r_v):=hJ (NW_g0.out.far B_v.out.lt)
 have F_g0_a:Hid (g0.Far r_a):=hJ (NW_g0.out.far B_a.out.lt)
 clear NW_g0;replace B_s:=hJ (B_s.out.ext hx)
 replace B_v:=hJ (B_v.out.ext hx)
 replace B_a:=hJ (B_a.out.ext hx)
 replace R_a1:=hJ (R_a1.out.ext hx)
 replace W_m1:=hJ (W_m1.out.ext hx)
 replace W_i:=hJ (W_i.out.ext hx)
 replace XX:=hJ (XX.out.trans hx)
 clear hx;have R_g0:=hJ hrd;have FT_g0:=hJ hft
 clear hrd hft;unfold BM.cells
 have E1:Hid (Ext w7 (w7.alloc (.cells #[Jq g0.self,.slice g0.Av g0.vs.length g0.cv,Jq g0.base,.slice g0.Al g0.log.length g0.cl,Jq g0.stable,Jq g0.sent,.slice g0.Ap g0.pend.length g0.cp,.slice g0.Am g0.marks.length g0.cm,.slice g0.Af g0.fls.length g0.cf] 28))):=hJ (Ext.new _ _)
 have L_s_b:Hid (r_s<w7.heap.size):=hJ B_s.out.lt
 have L_v_b:Hid (r_v<w7.heap.size):=hJ B_v.out.lt
 have L_a_b:Hid (r_a<w7.heap.size):=hJ B_a.out.lt
 have F_a1_b:Hid (a1.Far w7.heap.size):=hJ (R_a1.out.far (Nat.le_refl _))
 have F_g0_b:Hid (g0.Far w7.heap.size):=hJ (R_g0.out.far (Nat.le_refl _))
 have FR_m1_b:=hJ (Row.far W_m1.out (Nat.le_refl _))
 have FR_i_b:=hJ (Row.far W_i.out (Nat.le_refl _))
 have LW_b:Hid (w.heap.size≤w7.heap.size):=hJ XX.out.size
 replace B_s:=hJ (B_s.out.ext E1.out)
 replace B_v:=hJ (B_v.out.ext E1.out)
 replace B_a:=hJ (B_a.out.ext E1.out)
 replace R_a1:=hJ (R_a1.out.ext E1.out)
 replace R_g0:=hJ (R_g0.out.ext E1.out)
 replace W_m1:=hJ (W_m1.out.ext E1.out)
 replace W_i:=hJ (W_i.out.ext E1.out)
 replace XX:=hJ (XX.out.trans E1.out)
 have B_b:Hid (BIs (w7.alloc (.cells #[Jq g0.self,.slice g0.Av g0.vs.length g0.cv,Jq g0.base,.slice g0.Al g0.log.length g0.cl,Jq g0.stable,Jq g0.sent,.slice g0.Ap g0.pend.length g0.cp,.slice g0.Am g0.marks.length g0.cm,.slice g0.Af g0.fls.length g0.cf] 28)) w7.heap.size #[Jq g0.self,.slice g0.Av g0.vs.length g0.cv,Jq g0.base,.slice g0.Al g0.log.length g0.cl,Jq g0.stable,Jq g0.sent,.slice g0.Ap g0.pend.length g0.cp,.slice g0.Am g0.marks.length g0.cm,.slice g0.Af g0.fls.length g0.cf] 28):=hJ (BIs.new _ _ _)
 clear E1;go_upto_region 8 with fail
 generalize (w7.alloc (.cells #[Jq g0.self,.slice g0.Av g0.vs.length g0.cv,Jq g0.base,.slice g0.Al g0.log.length g0.cl,Jq g0.stable,Jq g0.sent,.slice g0.Ap g0.pend.length g0.cp,.slice g0.Am g0.marks.length g0.cm,.slice g0.Af g0.fls.length g0.cf] 28))=W7 at *
 generalize w7.heap.size=r_b at *
 clear B_v W_i;obtain⟨q0,q1,q2,q3,q4,q5,q6,q7,q8⟩:=qbC B_b.out
 have hpl:r_b<W7.heap.size:=B_b.out.lt
 refine qac 5 (fun w'=>w'.cell? (Pq r_b 0)=some (Jq g0.self)∧w'.cell? (Pq r_b 1)=some (.slice g0.Av g0.vs.length g0.cv)∧w'.cell? (Pq r_b 2)=some (Jq g0.base)∧w'.cell? (Pq r_b 3)=some (.slice g0.Al g0.log.length g0.cl)∧w'.cell? (Pq r_b 4)=some (Jq g0.stable)∧w'.cell? (Pq r_b 5)=some (Jq g0.sent)∧w'.cell? (Pq r_b 6)=some (.slice g0.Ap g0.pend.length g0.cp)∧w'.cell? (Pq r_b 7)=some (.slice g0.Am g0.marks.length g0.cm)∧w'.cell? (Pq r_b 8)=some (.slice g0.Af g0.fls.length g0.cf)) (by kernel_rfl) ⟨by simpa using q0,by simpa using q1,by simpa using q2,by simpa using q3,by simpa using q4,by simpa using q5,by simpa using q6,by simpa using q7,by simpa using q8⟩ (fun hHeld=>?_)
 refine E_t 0 53 ?_;refine E_t 1 54 ?_;refine E_r 2 (some 55) fun K hK=>?_
 go_simp;clear hHeld;refine hK.out _ _ ⟨(qag hpl).trans q0,(qag hpl).trans q1,(qag hpl).trans q2,(qag hpl).trans q3,(qag hpl).trans q4,(qag hpl).trans q5,(qag hpl).trans q6,(qag hpl).trans q7,(qag hpl).trans q8⟩ (fun hHeld=>?_)
 clear hK K;try simp only[Act.put,aP1,aP2,aP3]
 refine E_r 3 (some 56) fun K hK=>?_
 go_simp;go_at_call 36;refine(qgg 0 1 0 _ 1 [⟨0,1,1,[121]⟩] _ (by exact qsy (qdl ⟨0,1,1,[121]⟩ _) (by simp)) (by simp) (by simp)).mono ?_
 rintro e8 w8 ⟨A8,c8,rfl,hfl,h82,ho8,hx8⟩
 rw[qpY] at hfl ho8⊢
 have XF:Hid (Ext W7 w8):=hJ (((Ext.new _ _).trans Ext.drew1).trans hx8)
 have HF:=hJ ho8.row
 clear ho8 hx8;have BF:=hJ (B_b.out.ext XF.out)
 obtain⟨p0,p1,p2,p3,p4,p5,p6,p7,p8⟩:=qbC BF.out
 clear hHeld;refine hK.out _ _ ⟨p0,p1,p2,p3,p4,p5,p6,p7,p8⟩ (fun hHeld=>?_)
 clear hK K;try simp only[Act.put,aP1,aP2,aP3]
 refine E_r 4 (some 57) fun K hK=>?_
 go_simp;go_at_call 16;replace B_s:=hJ (B_s.out.ext XF.out)
 replace B_a:=hJ (B_a.out.ext XF.out)
 replace B_b:=hJ (B_b.out.ext XF.out)
 replace R_a1:=hJ (R_a1.out.ext XF.out)
 replace R_g0:=hJ (R_g0.out.ext XF.out)
 replace W_m1:=hJ (W_m1.out.ext XF.out)
 replace XX:=hJ (XX.out.trans XF.out)
 refine(qq1 g0 1 A8 c8 frA rB 0 _ R_g0.out FT_g0.out HF.out hfl (by decide) (by rw[ST_g0.out];exact qtY)).mono ?_
 rintro en w9 ⟨m2,rfl,hcs,hrd,hft,hpk,hdl,hx,hn,hnd,_⟩
 have CS_m2:Hid (m2.cs=rB):=hJ hcs
 have F_m2_s:Hid (m2.b.Far r_s):=hJ (hn.far B_s.out.lt)
 have FR_m2_s:=hJ (hnd.far B_s.out.lt)
 have F_m2_a:Hid (m2.b.Far r_a):=hJ (hn.far B_a.out.lt)
 have FR_m2_a:=hJ (hnd.far B_a.out.lt)
 have F_m2_b:Hid (m2.b.Far r_b):=hJ (hn.far B_b.out.lt)
 have FR_m2_b:=hJ (hnd.far B_b.out.lt)
 replace B_s:=hJ (B_s.out.ext hx)
 replace B_a:=hJ (B_a.out.ext hx)
 replace B_b:=hJ (B_b.out.ext hx)
 replace R_a1:=hJ (R_a1.out.ext hx)
 replace R_g0:=hJ (R_g0.out.ext hx)
 replace W_m1:=hJ (W_m1.out.ext hx)
 replace XX:=hJ (XX.out.trans hx)
 have R_m2:=hJ hrd;have W_m2:=hJ hdl
 clear hx hcs hrd hft hpk hdl hn hnd;unfold BM.cells
 obtain⟨o0,o1,o2,o3,o4,o5,o6,o7,o8⟩:=qbC B_b.out
 clear hHeld;refine hK.out _ _ ⟨o0,o1,o2,o3,o4,o5,o6,o7,o8⟩ (fun hHeld=>?_)
 clear hK K;try simp only[Act.put,aP1,aP2,aP3]
 refine qgo 14 (fun _=>True) (by kernel_rfl) trivial (fun hHeld=>?_)
 refine E_t 5 52 ?_;refine E_t 6 58 ?_;refine E_t 7 59 ?_;refine E_t 8 60 ?_;refine E_t 9 61 ?_;refine E_r 10 none fun K hK=>?_
 obtain⟨y0,y1,y2,y3,y4,y5,y6,y7,y8⟩:=qbC B_b.out
 obtain⟨z0,z1,z2,z3,z4,z5,z6,z7,z8⟩:=B_b.out.free9
 go_simp;clear hHeld;refine hK.out _ _ trivial (fun hHeld=>?_)
 clear hK K;try simp only[Act.put,aP1,aP2,aP3]
 refine E_t 11 12 ?_;refine E_t 12 13 ?_;refine E_t 13 14 ?_;refine qaE (by kernel_rfl) (by rfl) ?_
 have W9:Hid (Wrote r_b w9 (((((((((w9.setCell (Pq r_b 0) (Jq m2.b.self)).setCell (Pq r_b 1) (.slice m2.b.Av m2.b.vs.length m2.b.cv)).setCell (Pq r_b 2) (Jq m2.b.base)).setCell (Pq r_b 3) (.slice m2.b.Al m2.b.log.length m2.b.cl)).setCell (Pq r_b 4) (Jq m2.b.stable)).setCell (Pq r_b 5) (Jq m2.b.sent)).setCell (Pq r_b 6) (.slice m2.b.Ap m2.b.pend.length m2.b.cp)).setCell (Pq r_b 7) (.slice m2.b.Am m2.b.marks.length m2.b.cm)).setCell (Pq r_b 8) (.slice m2.b.Af m2.b.fls.length m2.b.cf))):=hJ qak
 have BN:Hid (BIs (((((((((w9.setCell (Pq r_b 0) (Jq m2.b.self)).setCell (Pq r_b 1) (.slice m2.b.Av m2.b.vs.length m2.b.cv)).setCell (Pq r_b 2) (Jq m2.b.base)).setCell (Pq r_b 3) (.slice m2.b.Al m2.b.log.length m2.b.cl)).setCell (Pq r_b 4) (Jq m2.b.stable)).setCell (Pq r_b 5) (Jq m2.b.sent)).setCell (Pq r_b 6) (.slice m2.b.Ap m2.b.pend.length m2.b.cp)).setCell (Pq r_b 7) (.slice m2.b.Am m2.b.marks.length m2.b.cm)).setCell (Pq r_b 8) (.slice m2.b.Af m2.b.fls.length m2.b.cf)) r_b #[Jq m2.b.self,.slice m2.b.Av m2.b.vs.length m2.b.cv,Jq m2.b.base,.slice m2.b.Al m2.b.log.length m2.b.cl,Jq m2.b.stable,Jq m2.b.sent,.slice m2.b.Ap m2.b.pend.length m2.b.cp,.slice m2.b.Am m2.b.marks.length m2.b.cm,.slice m2.b.Af m2.b.fls.length m2.b.cf] 28):=hJ (qaJ B_b.out)
 clear q0 q1 q2 q3 q4 q5 q6 q7 q8 p0 p1 p2 p3 p4 p5 p6 p7 p8 o0 o1 o2 o3 o4 o5 o6 o7 o8 y0 y1 y2 y3 y4 y5 y6 y7 y8 z0 z1 z2 z3 z4 z5 z6 z7 z8;replace B_s:=hJ (B_s.out.wrote (Nat.ne_of_lt L_s_b.out) W9.out)
 replace B_a:=hJ (B_a.out.wrote (Nat.ne_of_lt L_a_b.out) W9.out)
 replace B_b:=hJ (B_b.out)
 replace R_a1:=hJ (R_a1.out.wrote F_a1_b.out W9.out)
 replace R_g0:=hJ (R_g0.out.wrote F_g0_b.out W9.out)
 replace R_m2:=hJ (R_m2.out.wrote F_m2_b.out W9.out)
 replace W_m1:=hJ (W_m1.out.wrote FR_m1_b.out W9.out)
 replace W_m2:=hJ (W_m2.out.wrote FR_m2_b.out W9.out)
 replace XX:=hJ (W9.out.ext XX.out LW_b.out)
 replace B_b:=BN
 clear BN W9;generalize (((((((((w9.setCell (Pq r_b 0) (Jq m2.b.self)).setCell (Pq r_b 1) (.slice m2.b.Av m2.b.vs.length m2.b.cv)).setCell (Pq r_b 2) (Jq m2.b.base)).setCell (Pq r_b 3) (.slice m2.b.Al m2.b.log.length m2.b.cl)).setCell (Pq r_b 4) (Jq m2.b.stable)).setCell (Pq r_b 5) (Jq m2.b.sent)).setCell (Pq r_b 6) (.slice m2.b.Ap m2.b.pend.length m2.b.cp)).setCell (Pq r_b 7) (.slice m2.b.Am m2.b.marks.length m2.b.cm)).setCell (Pq r_b 8) (.slice m2.b.Af m2.b.fls.length m2.b.cf))=W9 at *
 clear R_m2 R_g0 FT_g0 W_m2 HF hfl;go_upto_region 9 with fail
 obtain⟨q0,q1,q2,q3,q4,q5,q6,q7,q8⟩:=qbC B_a.out
 have hpl:r_a<W9.heap.size:=B_a.out.lt
 refine qac 3 (fun w'=>w'.cell? (Pq r_a 0)=some (Jq a1.self)∧w'.cell? (Pq r_a 1)=some (.slice a1.Av a1.vs.length a1.cv)∧w'.cell? (Pq r_a 2)=some (Jq a1.base)∧w'.cell? (Pq r_a 3)=some (.slice a1.Al a1.log.length a1.cl)∧w'.cell? (Pq r_a 4)=some (Jq a1.stable)∧w'.cell? (Pq r_a 5)=some (Jq a1.sent)∧w'.cell? (Pq r_a 6)=some (.slice a1.Ap a1.pend.length a1.cp)∧w'.cell? (Pq r_a 7)=some (.slice a1.Am a1.marks.length a1.cm)∧w'.cell? (Pq r_a 8)=some (.slice a1.Af a1.fls.length a1.cf)) (by kernel_rfl) ⟨by simpa using q0,by simpa using q1,by simpa using q2,by simpa using q3,by simpa using q4,by simpa using q5,by simpa using q6,by simpa using q7,by simpa using q8⟩ (fun hHeld=>?_)
 refine E_t 0 63 ?_;refine E_r 1 (some 64) fun K hK=>?_
 go_simp;go_at_call 37;refine(qil 0 2 _).mono ?_
 rintro e8 w10 ⟨A10,c10,rfl,hfl,h82,ho8,hx8⟩
 rw[qoZ] at hfl ho8⊢
 have XF:Hid (Ext W9 w10):=hJ (Ext.drew1.trans hx8)
 have HF:=hJ ho8.row
 clear ho8 hx8;have BF:=hJ (B_a.out.ext XF.out)
 obtain⟨p0,p1,p2,p3,p4,p5,p6,p7,p8⟩:=qbC BF.out
 clear hHeld;refine hK.out _ _ ⟨p0,p1,p2,p3,p4,p5,p6,p7,p8⟩ (fun hHeld=>?_)
 clear hK K;try simp only[Act.put,aP1,aP2,aP3]
 refine E_r 2 (some 65) fun K hK=>?_
 go_simp;go_at_call 16;replace B_s:=hJ (B_s.out.ext XF.out)
 replace B_a:=hJ (B_a.out.ext XF.out)
 replace B_b:=hJ (B_b.out.ext XF.out)
 replace R_a1:=hJ (R_a1.out.ext XF.out)
 replace W_m1:=hJ (W_m1.out.ext XF.out)
 replace XX:=hJ (XX.out.trans XF.out)
 refine(qq1 a1 2 A10 c10 frB rA 0 _ R_a1.out FT_a1.out HF.out hfl (by decide) (by rw[ST_a1.out];exact qtW)).mono ?_
 rintro en w11 ⟨m3,rfl,hcs,hrd,hft,hpk,hdl,hx,hn,hnd,_⟩
 have CS_m3:Hid (m3.cs=rA):=hJ hcs
 have F_m3_s:Hid (m3.b.Far r_s):=hJ (hn.far B_s.out.lt)
 have FR_m3_s:=hJ (hnd.far B_s.out.lt)
 have F_m3_a:Hid (m3.b.Far r_a):=hJ (hn.far B_a.out.lt)
 have FR_m3_a:=hJ (hnd.far B_a.out.lt)
 have F_m3_b:Hid (m3.b.Far r_b):=hJ (hn.far B_b.out.lt)
 have FR_m3_b:=hJ (hnd.far B_b.out.lt)
 replace B_s:=hJ (B_s.out.ext hx)
 replace B_a:=hJ (B_a.out.ext hx)
 replace B_b:=hJ (B_b.out.ext hx)
 replace R_a1:=hJ (R_a1.out.ext hx)
 replace W_m1:=hJ (W_m1.out.ext hx)
 replace XX:=hJ (XX.out.trans hx)
 have R_m3:=hJ hrd;have W_m3:=hJ hdl
 clear hx hcs hrd hft hpk hdl hn hnd;unfold BM.cells
 obtain⟨o0,o1,o2,o3,o4,o5,o6,o7,o8⟩:=qbC B_a.out
 clear hHeld;refine hK.out _ _ ⟨o0,o1,o2,o3,o4,o5,o6,o7,o8⟩ (fun hHeld=>?_)
 clear hK K;try simp only[Act.put,aP1,aP2,aP3]
 refine qgo 12 (fun _=>True) (by kernel_rfl) trivial (fun hHeld=>?_)
 refine E_t 3 62 ?_;refine E_t 4 66 ?_;refine E_t 5 67 ?_;refine E_t 6 68 ?_;refine E_t 7 69 ?_;refine E_r 8 none fun K hK=>?_
 obtain⟨y0,y1,y2,y3,y4,y5,y6,y7,y8⟩:=qbC B_a.out
 obtain⟨z0,z1,z2,z3,z4,z5,z6,z7,z8⟩:=B_a.out.free9
 go_simp;clear hHeld;refine hK.out _ _ trivial (fun hHeld=>?_)
 clear hK K;try simp only[Act.put,aP1,aP2,aP3]
 refine E_t 9 15 ?_;refine E_t 10 16 ?_;refine E_t 11 17 ?_;refine qaE (by kernel_rfl) (by rfl) ?_
 have W9:Hid (Wrote r_a w11 (((((((((w11.setCell (Pq r_a 0) (Jq m3.b.self)).setCell (Pq r_a 1) (.slice m3.b.Av m3.b.vs.length m3.b.cv)).setCell (Pq r_a 2) (Jq m3.b.base)).setCell (Pq r_a 3) (.slice m3.b.Al m3.b.log.length m3.b.cl)).setCell (Pq r_a 4) (Jq m3.b.stable)).setCell (Pq r_a 5) (Jq m3.b.sent)).setCell (Pq r_a 6) (.slice m3.b.Ap m3.b.pend.length m3.b.cp)).setCell (Pq r_a 7) (.slice m3.b.Am m3.b.marks.length m3.b.cm)).setCell (Pq r_a 8) (.slice m3.b.Af m3.b.fls.length m3.b.cf))):=hJ qak
 have BN:Hid (BIs (((((((((w11.setCell (Pq r_a 0) (Jq m3.b.self)).setCell (Pq r_a 1) (.slice m3.b.Av m3.b.vs.length m3.b.cv)).setCell (Pq r_a 2) (Jq m3.b.base)).setCell (Pq r_a 3) (.slice m3.b.Al m3.b.log.length m3.b.cl)).setCell (Pq r_a 4) (Jq m3.b.stable)).setCell (Pq r_a 5) (Jq m3.b.sent)).setCell (Pq r_a 6) (.slice m3.b.Ap m3.b.pend.length m3.b.cp)).setCell (Pq r_a 7) (.slice m3.b.Am m3.b.marks.length m3.b.cm)).setCell (Pq r_a 8) (.slice m3.b.Af m3.b.fls.length m3.b.cf)) r_a #[Jq m3.b.self,.slice m3.b.Av m3.b.vs.length m3.b.cv,Jq m3.b.base,.slice m3.b.Al m3.b.log.length m3.b.cl,Jq m3.b.stable,Jq m3.b.sent,.slice m3.b.Ap m3.b.pend.length m3.b.cp,.slice m3.b.Am m3.b.marks.length m3.b.cm,.slice m3.b.Af m3.b.fls.length m3.b.cf] 28):=hJ (qaJ B_a.out)
 clear q0 q1 q2 q3 q4 q5 q6 q7 q8 p0 p1 p2 p3 p4 p5 p6 p7 p8 o0 o1 o2 o3 o4 o5 o6 o7 o8 y0 y1 y2 y3 y4 y5 y6 y7 y8 z0 z1 z2 z3 z4 z5 z6 z7 z8;replace B_s:=hJ (B_s.out.wrote (Nat.ne_of_lt L_s_a.out) W9.out)
 replace B_a:=hJ (B_a.out)
 replace B_b:=hJ (B_b.out.wrote (Nat.ne_of_gt L_a_b.out) W9.out)
 replace R_a1:=hJ (R_a1.out.wrote F_a1_a.out W9.out)
 replace R_m3:=hJ (R_m3.out.wrote F_m3_a.out W9.out)
 replace W_m1:=hJ (W_m1.out.wrote FR_m1_a.out W9.out)
 replace W_m3:=hJ (W_m3.out.wrote FR_m3_a.out W9.out)
 replace XX:=hJ (W9.out.ext XX.out LW_a.out)
 replace B_a:=BN
 clear BN W9;generalize (((((((((w11.setCell (Pq r_a 0) (Jq m3.b.self)).setCell (Pq r_a 1) (.slice m3.b.Av m3.b.vs.length m3.b.cv)).setCell (Pq r_a 2) (Jq m3.b.base)).setCell (Pq r_a 3) (.slice m3.b.Al m3.b.log.length m3.b.cl)).setCell (Pq r_a 4) (Jq m3.b.stable)).setCell (Pq r_a 5) (Jq m3.b.sent)).setCell (Pq r_a 6) (.slice m3.b.Ap m3.b.pend.length m3.b.cp)).setCell (Pq r_a 7) (.slice m3.b.Am m3.b.marks.length m3.b.cm)).setCell (Pq r_a 8) (.slice m3.b.Af m3.b.fls.length m3.b.cf))=W11 at *
 go_upto_region 10 with fail
 have d1:m1.dl=tS.dl:=congrArg Cs.dl CS_m1.out
 have hl1:m1.dl.length=2:=by rw[d1];exact qsu.1
 have hp1:m1.b.pend=[]:=(congrArg (fun c:Cs=>c.s.pend) CS_m1.out).trans qsu.2.2
 have hp2:m2.b.log.length=2:=by rw[show m2.b.log=rB.s.log from congrArg (fun c:Cs=>c.s.log) CS_m2.out];exact qtb.1
 have hp3:m2.b.stable=0:=(congrArg (fun c:Cs=>c.s.stable) CS_m2.out).trans qtb.2
 have hp4:m3.b.stable=2:=(congrArg (fun c:Cs=>c.s.stable) CS_m3.out).trans qs7.2
 have hl3:m3.dl.length=2:=by rw[show m3.dl=rA.dl from congrArg Cs.dl CS_m3.out];exact qs7.1
 obtain⟨bb,off,e,hA,hb,c0,c1,c2,c3,HE⟩:=qbG W_m1.out (i:=1) (by omega)
 have he:e.p=[120]∧e.o=4:=by have h1:=qsu.2.1;rw[←d1,HE.out] at h1;simp only[Option.map_some,Option.some.injEq,Prod.mk.injEq] at h1;exact h1
 rw[he.1] at c3;rw[he.2] at c1
 have x6:W11.cell? (Pq r_s 6)=some (.slice m1.b.Ap 0 m1.b.cp):=by have h:=B_s.out.cell 6;simp only[hp1,List.length_nil] at h;exact h
 have x3:W11.cell? (Pq r_b 3)=some (.slice m2.b.Al 2 m2.b.cl):=by have h:=B_b.out.cell 3;simp only[hp2] at h;exact h
 have x4:W11.cell? (Pq r_b 4)=some (Jq 0):=by have h:=B_b.out.cell 4;simp only[hp3] at h;exact h
 have x5:W11.cell? (Pq r_a 4)=some (Jq 2):=by have h:=B_a.out.cell 4;simp only[hp4] at h;exact h
 rw[hl1,hl3,hA]
 clear hl1 hl3 hp1 hp2 hp3 hp4 d1 B_s B_a B_b hA;simp only[Nat.one_mul,Nat.add_assoc,Nat.reduceAdd] at c1 c3
 rw[show qax [120]=⟨#[120]⟩ from rfl] at c3
 go_wp2;go_ret
 exact⟨rfl,XX.out⟩
theorem qt0(n:Int)(A:Option Addr)(c:Nat)(xs:List Int)(w:World)(h:Row w A (qam xs))(hn:xs.length≤9223372036854775807) :
  Calls Tryz.prog 32 #[.agg #[Jq n,.slice A xs.length c]] w fun e w'=>e=.returned (qjG (qab n xs))∧Ext w w':=by
 have H0:=hJ ((Ext.new w (.cells #[Jq n,.slice A xs.length c] 46)).alloc (.cells #[Jq 0,Jq 0,Jq 0,.string {data:=#[]}] 66))
 have HX:=hJ (h.ext H0.out.drew)
 clear h;go_enter Tryz.func32,Tryz.ntmps32
 go_wp2;go_region_held (fun w'=>w'.cell? (Pw w 0)=some (Jq n)∧w'.cell? (Pw w 1)=some (.slice A xs.length c))
  (first|(go_keep;done)|exact⟨r0,r1⟩)
  (first
   | (go_at_call 104;(with_reducible refine(qt4 n A c xs _ (by exact HX.out) hn).mono ?_);rintro e v1 ⟨A1,c1,rfl,h1,h2,ho1,hx1⟩;have X1:=hJ (Ext.trans H0.out.drew hx1);have hcv:=qdJ c1 _ ho1.row rfl;have y1:w.heap.size+1<v1.heap.size:=(by have:=hx1.size;simp at this;omega);have r0:v1.cell? ⟨w.heap.size,0,none⟩=some (.int .i64 n):=(by rw[hx1.cell (by simp<;>omega)];simp);have r1:v1.cell? ⟨w.heap.size,1,none⟩=some (.slice A xs.length c):=(by rw[hx1.cell (by simp<;>omega)];simp);have f0:v1.frozen? ⟨w.heap.size+1,0,none⟩=false:=(by rw[hx1.frozen (by simp)];simp);have f1:v1.frozen? ⟨w.heap.size+1,1,none⟩=false:=(by rw[hx1.frozen (by simp)];simp);have f2:v1.frozen? ⟨w.heap.size+1,2,none⟩=false:=(by rw[hx1.frozen (by simp)];simp);have f3:v1.frozen? ⟨w.heap.size+1,3,none⟩=false:=(by rw[hx1.frozen (by simp)];simp);have k0:v1.cell? ⟨w.heap.size+1,0,none⟩=some (.int .i64 0):=(by rw[hx1.cell (by simp)];simp);have k1:v1.cell? ⟨w.heap.size+1,1,none⟩=some (.int .i64 0):=(by rw[hx1.cell (by simp)];simp);have k2:v1.cell? ⟨w.heap.size+1,2,none⟩=some (.int .i64 0):=(by rw[hx1.cell (by simp)];simp);have k3:v1.cell? ⟨w.heap.size+1,3,none⟩=some (.string {data:=#[]}):=(by rw[hx1.cell (by simp)];simp);clear ho1 hx1))
 have X2:=hJ ((((X1.out.set (p:=(Pv w 0)) (by simp) (Jq n)).set (p:=(Pv w 1)) (by simp) (Jq 0)).set (p:=(Pv w 2)) (by simp) (Jq n)).set (p:=(Pv w 3)) (by simp) (.string (qax (qoJ n xs))))
 clear X1 HX H0 r0 r1 hcv;go_wp2;exact bodyPost_ret (v:=qjG (qab n xs)) (by simp[results,Tryz.results32,go_sem,k0,k1,k2,k3,qjG,qab]) rfl ⟨rfl,X2.out⟩
end Go.Proofs.YtponbabbabnaeaaGreat
