/- CastClosed: all calls of a member lead from valid states to valid states, and exactly the entries by which Stable grows are delivered. Conditions: none beyond the statement's own. -/
import Derived.Test.YtponbabbabnaeaaGreatQb01
import Derived.Test.YtponbabbabnaeaaGreatQb31
import Derived.Test.YtponbabbabnaeaaGreatQb32
import Derived.Test.YtponbabbabnaeaaGreatQb33
import Derived.Test.YtponbabbabnaeaaGreatQb35
namespace Go.Proofs.YtponbabbabnaeaaGreat.castClosed
open Go.RowKit
set_option maxRecDepth 100000 in
set_option maxHeartbeats 4000000 in
theorem walk0 (b : BM) (pl : List UInt8) (n : Int) (A : Option Addr) (c : Nat) (xs : List Int) (fr : Int) (Af : Option Addr) (c2 : Nat) (frame : List UInt8) (w : World) (h : b.Reads w) (hs : b.Slices) (hr : Row w A (ints xs)) (hf : Row w Af (bytesV frame)) (hfc : frame.length ≤ c2) :
  Calls Tryz.prog 5 #[.agg b.cells, .string (strB pl), .agg #[.int .i64 n, .slice A xs.length c], .int .i64 fr, .slice Af frame.length c2] w fun e w' => e = .returned (.bool true) ∧ Ext w w' := by
 have E0 : Hid (Ext w ((w.alloc (.cells #[.int .i64 b.self, .slice b.Av b.vs.length b.cv, .int .i64 b.base, .slice b.Al b.log.length b.cl, .int .i64 b.stable, .int .i64 b.sent, .slice b.Ap b.pend.length b.cp, .slice b.Am b.marks.length b.cm, .slice b.Af b.fls.length b.cf] 28)).alloc (.cells #[.int .i64 n, .slice A xs.length c] 46))) := hJ ((Ext.new _ _).trans (Ext.new _ _))
 have B5 : Hid (BIs ((w.alloc (.cells #[.int .i64 b.self, .slice b.Av b.vs.length b.cv, .int .i64 b.base, .slice b.Al b.log.length b.cl, .int .i64 b.stable, .int .i64 b.sent, .slice b.Ap b.pend.length b.cp, .slice b.Am b.marks.length b.cm, .slice b.Af b.fls.length b.cf] 28)).alloc (.cells #[.int .i64 n, .slice A xs.length c] 46)) w.heap.size #[.int .i64 b.self, .slice b.Av b.vs.length b.cv, .int .i64 b.base, .slice b.Al b.log.length b.cl, .int .i64 b.stable, .int .i64 b.sent, .slice b.Ap b.pend.length b.cp, .slice b.Am b.marks.length b.cm, .slice b.Af b.fls.length b.cf] 28) := hJ ((BIs.new _ _ _).ext (Ext.new _ _))
 have B7 : Hid (BIs ((w.alloc (.cells #[.int .i64 b.self, .slice b.Av b.vs.length b.cv, .int .i64 b.base, .slice b.Al b.log.length b.cl, .int .i64 b.stable, .int .i64 b.sent, .slice b.Ap b.pend.length b.cp, .slice b.Am b.marks.length b.cm, .slice b.Af b.fls.length b.cf] 28)).alloc (.cells #[.int .i64 n, .slice A xs.length c] 46)) (w.heap.size + 1) #[.int .i64 n, .slice A xs.length c] 46) := hJ (by have := BIs.new (w.alloc (.cells #[.int .i64 b.self, .slice b.Av b.vs.length b.cv, .int .i64 b.base, .slice b.Al b.log.length b.cl, .int .i64 b.stable, .int .i64 b.sent, .slice b.Ap b.pend.length b.cp, .slice b.Am b.marks.length b.cm, .slice b.Af b.fls.length b.cf] 28)) #[.int .i64 n, .slice A xs.length c] 46; simpa using this)
 have RB := hJ (h.ext E0.out); have RX := hJ (hr.ext E0.out); have RF := hJ (hf.ext E0.out); have XX := E0; have HSL := hJ hs
 clear h hr hf hs E0; unfold BM.cells
 go_enter Tryz.func5, Tryz.ntmps5
 go_wp2_with fail
 generalize ((w.alloc (.cells #[.int .i64 b.self, .slice b.Av b.vs.length b.cv, .int .i64 b.base, .slice b.Al b.log.length b.cl, .int .i64 b.stable, .int .i64 b.sent, .slice b.Ap b.pend.length b.cp, .slice b.Am b.marks.length b.cm, .slice b.Af b.fls.length b.cf] 28)).alloc (.cells #[.int .i64 n, .slice A xs.length c] 46)) = u0 at *
 refine (awake12_any _).mono ?_
 rintro en w1 ⟨rfl, hx2⟩
 replace B5 := hJ (B5.out.ext hx2); replace B7 := hJ (B7.out.ext hx2); replace RB := hJ (RB.out.ext hx2); replace RX := hJ (RX.out.ext hx2); replace RF := hJ (RF.out.ext hx2); replace XX := hJ (XX.out.trans hx2); clear hx2
 obtain ⟨q0, q1, q2, q3, q4, q5, q6, q7, q8⟩ := nine B5.out
 go_wp2_with fail
 refine (small12_any b _ RB.out HSL.out).mono ?_
 rintro en w2 ⟨r, rfl, hsm, hx2⟩
 clear q0 q1 q2 q3 q4 q5 q6 q7 q8; replace B5 := hJ (B5.out.ext hx2); replace B7 := hJ (B7.out.ext hx2); replace RB := hJ (RB.out.ext hx2); replace RX := hJ (RX.out.ext hx2); replace RF := hJ (RF.out.ext hx2); replace XX := hJ (XX.out.trans hx2); clear hx2; have hsz := strB_size pl
 cases r with
 | false =>
  go_wp2; go_ret
  exact ⟨rfl, XX.out⟩
 | true =>
  have HS := hJ (hsm rfl)
  clear hsm; have HFT := hJ (HS.out.fits HSL.out.log)
  by_cases h1 : 7000 < pl.length
  ·have d1 : (7000 : Int) < (pl.length : Int) := by omega
   go_wp2; go_ret
   exact ⟨rfl, XX.out⟩
  have d1 : decide ((7000 : Int) < (pl.length : Int)) = false := by simp only [decide_eq_false_iff_not]; omega
  have e1 : pl.length ≤ 7000 := by omega
  clear h1; have v1 : w2.cell? ⟨w.heap.size + 1, 1, none⟩ = some (.slice A xs.length c) := B7.out.cell 1
  by_cases h2 : 40 < xs.length
  ·have d2 : (40 : Int) < (xs.length : Int) := by omega
   go_wp2; go_ret
   exact ⟨rfl, XX.out⟩
  have d2 : decide ((40 : Int) < (xs.length : Int)) = false := by simp only [decide_eq_false_iff_not]; omega
  have e2 : xs.length ≤ 40 := by omega
  clear h2; by_cases h3 : 8000 < frame.length
  ·have d3 : (8000 : Int) < (frame.length : Int) := by omega
   go_wp2; go_ret
   exact ⟨rfl, XX.out⟩
  have d3 : decide ((8000 : Int) < (frame.length : Int)) = false := by simp only [decide_eq_false_iff_not]; omega
  have e3 : frame.length ≤ 8000 := by omega
  clear h3; obtain ⟨q0, q1, q2, q3, q4, q5, q6, q7, q8⟩ := nine B5.out
  go_wp2_with fail
  refine (valid12_any b _ RB.out HFT.out).mono ?_
  rintro en w3 ⟨rfl, hx2⟩
  clear q0 q1 q2 q3 q4 q5 q6 q7 q8; clear v1; replace B5 := hJ (B5.out.ext hx2); replace B7 := hJ (B7.out.ext hx2); replace RB := hJ (RB.out.ext hx2); replace RX := hJ (RX.out.ext hx2); replace RF := hJ (RF.out.ext hx2); replace XX := hJ (XX.out.trans hx2); clear hx2; cases hv : validS b.st with
  | false =>
   go_wp2; go_ret
   exact ⟨rfl, XX.out⟩
  | true =>
   have HV := hJ hv; have VV := hJ (vs_iff.1 hv)
   clear hv d1 d2 d3 hsz; obtain ⟨q0, q1, q2, q3, q4, q5, q6, q7, q8⟩ := nine B5.out
   go_wp2_with fail
   refine (submit_any b pl _ RB.out HFT.out (by omega)).mono ?_
   rintro en w4 ⟨ba, rfl, hst, hrd, hft, hx2, hnew⟩
   clear q0 q1 q2 q3 q4 q5 q6 q7 q8; clear hnew; replace B5 := hJ (B5.out.ext hx2); replace B7 := hJ (B7.out.ext hx2); replace RB := hJ (RB.out.ext hx2); replace RX := hJ (RX.out.ext hx2); replace RF := hJ (RF.out.ext hx2); replace XX := hJ (XX.out.trans hx2); clear hx2; have RA := hJ hrd; have FA := hJ hft; have SA := hJ hst
   clear hrd hft hst; obtain ⟨ea, hea⟩ : ∃ x, x = (submitF b.st pl).2 := ⟨_, rfl⟩
   rw [← hea]
   have HEA := hJ hea
   clear hea; unfold BM.cells
   go_upto_region 6 with fail
   have hx2 : Ext w4 (w4.alloc (.cells #[.int .i64 ba.self, .slice ba.Av ba.vs.length ba.cv, .int .i64 ba.base, .slice ba.Al ba.log.length ba.cl, .int .i64 ba.stable, .int .i64 ba.sent, .slice ba.Ap ba.pend.length ba.cp, .slice ba.Am ba.marks.length ba.cm, .slice ba.Af ba.fls.length ba.cf] 28)) := Ext.new _ _
   have BA : Hid (BIs (w4.alloc (.cells #[.int .i64 ba.self, .slice ba.Av ba.vs.length ba.cv, .int .i64 ba.base, .slice ba.Al ba.log.length ba.cl, .int .i64 ba.stable, .int .i64 ba.sent, .slice ba.Ap ba.pend.length ba.cp, .slice ba.Am ba.marks.length ba.cm, .slice ba.Af ba.fls.length ba.cf] 28)) w4.heap.size #[.int .i64 ba.self, .slice ba.Av ba.vs.length ba.cv, .int .i64 ba.base, .slice ba.Al ba.log.length ba.cl, .int .i64 ba.stable, .int .i64 ba.sent, .slice ba.Ap ba.pend.length ba.cp, .slice ba.Am ba.marks.length ba.cm, .slice ba.Af ba.fls.length ba.cf] 28) := hJ (BIs.new _ _ _)
   replace B5 := hJ (B5.out.ext hx2); replace B7 := hJ (B7.out.ext hx2); replace RB := hJ (RB.out.ext hx2); replace RX := hJ (RX.out.ext hx2); replace RF := hJ (RF.out.ext hx2); replace RA := hJ (RA.out.ext hx2); replace XX := hJ (XX.out.trans hx2); clear hx2
   generalize (w4.alloc (.cells #[.int .i64 ba.self, .slice ba.Av ba.vs.length ba.cv, .int .i64 ba.base, .slice ba.Al ba.log.length ba.cl, .int .i64 ba.stable, .int .i64 ba.sent, .slice ba.Ap ba.pend.length ba.cp, .slice ba.Am ba.marks.length ba.cm, .slice ba.Af ba.fls.length ba.cf] 28)) = u4 at *
   generalize w4.heap.size = r_a at *
   obtain ⟨q0, q1, q2, q3, q4, q5, q6, q7, q8⟩ := nine B5.out
   have v0 : u4.cell? ⟨w.heap.size + 1, 0, none⟩ = some (.int .i64 n) := B7.out.cell 0
   have v1 : u4.cell? ⟨w.heap.size + 1, 1, none⟩ = some (.slice A xs.length c) := B7.out.cell 1
   go_wp2_with fail
   refine (newView_any b n A c xs _ RB.out HFT.out RX.out (by omega)).mono ?_
   rintro en w5 ⟨bb, rfl, hst, hrd, hft, hx2, hnew⟩
   clear q0 q1 q2 q3 q4 q5 q6 q7 q8; clear hnew v0 v1; replace B5 := hJ (B5.out.ext hx2); replace B7 := hJ (B7.out.ext hx2); replace RB := hJ (RB.out.ext hx2); replace RX := hJ (RX.out.ext hx2); replace RF := hJ (RF.out.ext hx2); replace RA := hJ (RA.out.ext hx2); replace BA := hJ (BA.out.ext hx2); replace XX := hJ (XX.out.trans hx2); clear hx2; have RV := hJ hrd; have FV := hJ hft; have SV := hJ hst
   clear hrd hft hst; obtain ⟨eb, heb⟩ : ∃ x, x = (newViewF b.st (n, xs)).2 := ⟨_, rfl⟩
   rw [← heb]
   have HEB := hJ heb
   clear heb; unfold BM.cells
   go_upto_region 7 with fail
   have hx2 : Ext w5 (w5.alloc (.cells #[.int .i64 bb.self, .slice bb.Av bb.vs.length bb.cv, .int .i64 bb.base, .slice bb.Al bb.log.length bb.cl, .int .i64 bb.stable, .int .i64 bb.sent, .slice bb.Ap bb.pend.length bb.cp, .slice bb.Am bb.marks.length bb.cm, .slice bb.Af bb.fls.length bb.cf] 28)) := Ext.new _ _
   have BV : Hid (BIs (w5.alloc (.cells #[.int .i64 bb.self, .slice bb.Av bb.vs.length bb.cv, .int .i64 bb.base, .slice bb.Al bb.log.length bb.cl, .int .i64 bb.stable, .int .i64 bb.sent, .slice bb.Ap bb.pend.length bb.cp, .slice bb.Am bb.marks.length bb.cm, .slice bb.Af bb.fls.length bb.cf] 28)) w5.heap.size #[.int .i64 bb.self, .slice bb.Av bb.vs.length bb.cv, .int .i64 bb.base, .slice bb.Al bb.log.length bb.cl, .int .i64 bb.stable, .int .i64 bb.sent, .slice bb.Ap bb.pend.length bb.cp, .slice bb.Am bb.marks.length bb.cm, .slice bb.Af bb.fls.length bb.cf] 28) := hJ (BIs.new _ _ _)
   replace B5 := hJ (B5.out.ext hx2); replace B7 := hJ (B7.out.ext hx2); replace RB := hJ (RB.out.ext hx2); replace RX := hJ (RX.out.ext hx2); replace RF := hJ (RF.out.ext hx2); replace RA := hJ (RA.out.ext hx2); replace BA := hJ (BA.out.ext hx2); replace RV := hJ (RV.out.ext hx2); replace XX := hJ (XX.out.trans hx2); clear hx2
   generalize (w5.alloc (.cells #[.int .i64 bb.self, .slice bb.Av bb.vs.length bb.cv, .int .i64 bb.base, .slice bb.Al bb.log.length bb.cl, .int .i64 bb.stable, .int .i64 bb.sent, .slice bb.Ap bb.pend.length bb.cp, .slice bb.Am bb.marks.length bb.cm, .slice bb.Af bb.fls.length bb.cf] 28)) = u5 at *
   generalize w5.heap.size = r_b at *
   obtain ⟨q0, q1, q2, q3, q4, q5, q6, q7, q8⟩ := nine B5.out
   go_wp2_with fail
   refine (tick_any b _ RB.out HFT.out HV.out).mono ?_
   rintro en w6 ⟨mc, rfl, hcs, hrd, hft, hpk, hdl, hx2, hnew, hnew2⟩
   clear q0 q1 q2 q3 q4 q5 q6 q7 q8; clear hnew hnew2 hpk; replace B5 := hJ (B5.out.ext hx2); replace B7 := hJ (B7.out.ext hx2); replace RB := hJ (RB.out.ext hx2); replace RX := hJ (RX.out.ext hx2); replace RF := hJ (RF.out.ext hx2); replace RA := hJ (RA.out.ext hx2); replace BA := hJ (BA.out.ext hx2); replace RV := hJ (RV.out.ext hx2); replace BV := hJ (BV.out.ext hx2); replace XX := hJ (XX.out.trans hx2); clear hx2; have RC := hJ hrd; have FC := hJ hft; have SC := hJ hcs; have RDC := hJ hdl
   clear hrd hft hcs hdl; unfold BM.cells
   go_upto_region 8 with fail
   have hx2 : Ext w6 (w6.alloc (.cells #[.int .i64 mc.b.self, .slice mc.b.Av mc.b.vs.length mc.b.cv, .int .i64 mc.b.base, .slice mc.b.Al mc.b.log.length mc.b.cl, .int .i64 mc.b.stable, .int .i64 mc.b.sent, .slice mc.b.Ap mc.b.pend.length mc.b.cp, .slice mc.b.Am mc.b.marks.length mc.b.cm, .slice mc.b.Af mc.b.fls.length mc.b.cf] 28)) := Ext.new _ _
   have BC : Hid (BIs (w6.alloc (.cells #[.int .i64 mc.b.self, .slice mc.b.Av mc.b.vs.length mc.b.cv, .int .i64 mc.b.base, .slice mc.b.Al mc.b.log.length mc.b.cl, .int .i64 mc.b.stable, .int .i64 mc.b.sent, .slice mc.b.Ap mc.b.pend.length mc.b.cp, .slice mc.b.Am mc.b.marks.length mc.b.cm, .slice mc.b.Af mc.b.fls.length mc.b.cf] 28)) w6.heap.size #[.int .i64 mc.b.self, .slice mc.b.Av mc.b.vs.length mc.b.cv, .int .i64 mc.b.base, .slice mc.b.Al mc.b.log.length mc.b.cl, .int .i64 mc.b.stable, .int .i64 mc.b.sent, .slice mc.b.Ap mc.b.pend.length mc.b.cp, .slice mc.b.Am mc.b.marks.length mc.b.cm, .slice mc.b.Af mc.b.fls.length mc.b.cf] 28) := hJ (BIs.new _ _ _)
   replace B5 := hJ (B5.out.ext hx2); replace B7 := hJ (B7.out.ext hx2); replace RB := hJ (RB.out.ext hx2); replace RX := hJ (RX.out.ext hx2); replace RF := hJ (RF.out.ext hx2); replace RA := hJ (RA.out.ext hx2); replace BA := hJ (BA.out.ext hx2); replace RV := hJ (RV.out.ext hx2); replace BV := hJ (BV.out.ext hx2); replace RC := hJ (RC.out.ext hx2); replace RDC := hJ (RDC.out.ext hx2); replace XX := hJ (XX.out.trans hx2); clear hx2
   generalize (w6.alloc (.cells #[.int .i64 mc.b.self, .slice mc.b.Av mc.b.vs.length mc.b.cv, .int .i64 mc.b.base, .slice mc.b.Al mc.b.log.length mc.b.cl, .int .i64 mc.b.stable, .int .i64 mc.b.sent, .slice mc.b.Ap mc.b.pend.length mc.b.cp, .slice mc.b.Am mc.b.marks.length mc.b.cm, .slice mc.b.Af mc.b.fls.length mc.b.cf] 28)) = u6 at *
   generalize w6.heap.size = r_c at *
   obtain ⟨q0, q1, q2, q3, q4, q5, q6, q7, q8⟩ := nine B5.out
   go_wp2_with fail
   refine (receive_any b fr Af c2 frame _ RB.out HFT.out RF.out (by omega) (by omega)).mono ?_
   rintro en w7 ⟨md, rfl, hcs, hrd, hft, hpk, hdl, hx2, hnew, hnew2⟩
   clear q0 q1 q2 q3 q4 q5 q6 q7 q8; clear hnew hnew2 hpk; replace B5 := hJ (B5.out.ext hx2); replace B7 := hJ (B7.out.ext hx2); replace RB := hJ (RB.out.ext hx2); replace RX := hJ (RX.out.ext hx2); replace RF := hJ (RF.out.ext hx2); replace RA := hJ (RA.out.ext hx2); replace BA := hJ (BA.out.ext hx2); replace RV := hJ (RV.out.ext hx2); replace BV := hJ (BV.out.ext hx2); replace RC := hJ (RC.out.ext hx2); replace RDC := hJ (RDC.out.ext hx2); replace BC := hJ (BC.out.ext hx2); replace XX := hJ (XX.out.trans hx2); clear hx2; have RD := hJ hrd; have FD := hJ hft; have SD := hJ hcs; have RDD := hJ hdl
   clear hrd hft hcs hdl; obtain ⟨er, her⟩ : ∃ x, x = (receiveF b.st fr frame).2 := ⟨_, rfl⟩
   rw [← her]
   have HER := hJ her
   clear her; unfold BM.cells
   go_upto_region 9 with fail
   have hx2 : Ext w7 (w7.alloc (.cells #[.int .i64 md.b.self, .slice md.b.Av md.b.vs.length md.b.cv, .int .i64 md.b.base, .slice md.b.Al md.b.log.length md.b.cl, .int .i64 md.b.stable, .int .i64 md.b.sent, .slice md.b.Ap md.b.pend.length md.b.cp, .slice md.b.Am md.b.marks.length md.b.cm, .slice md.b.Af md.b.fls.length md.b.cf] 28)) := Ext.new _ _
   have BD : Hid (BIs (w7.alloc (.cells #[.int .i64 md.b.self, .slice md.b.Av md.b.vs.length md.b.cv, .int .i64 md.b.base, .slice md.b.Al md.b.log.length md.b.cl, .int .i64 md.b.stable, .int .i64 md.b.sent, .slice md.b.Ap md.b.pend.length md.b.cp, .slice md.b.Am md.b.marks.length md.b.cm, .slice md.b.Af md.b.fls.length md.b.cf] 28)) w7.heap.size #[.int .i64 md.b.self, .slice md.b.Av md.b.vs.length md.b.cv, .int .i64 md.b.base, .slice md.b.Al md.b.log.length md.b.cl, .int .i64 md.b.stable, .int .i64 md.b.sent, .slice md.b.Ap md.b.pend.length md.b.cp, .slice md.b.Am md.b.marks.length md.b.cm, .slice md.b.Af md.b.fls.length md.b.cf] 28) := hJ (BIs.new _ _ _)
   replace B5 := hJ (B5.out.ext hx2); replace B7 := hJ (B7.out.ext hx2); replace RB := hJ (RB.out.ext hx2); replace RX := hJ (RX.out.ext hx2); replace RF := hJ (RF.out.ext hx2); replace RA := hJ (RA.out.ext hx2); replace BA := hJ (BA.out.ext hx2); replace RV := hJ (RV.out.ext hx2); replace BV := hJ (BV.out.ext hx2); replace RC := hJ (RC.out.ext hx2); replace RDC := hJ (RDC.out.ext hx2); replace BC := hJ (BC.out.ext hx2); replace RD := hJ (RD.out.ext hx2); replace RDD := hJ (RDD.out.ext hx2); replace XX := hJ (XX.out.trans hx2); clear hx2
   generalize (w7.alloc (.cells #[.int .i64 md.b.self, .slice md.b.Av md.b.vs.length md.b.cv, .int .i64 md.b.base, .slice md.b.Al md.b.log.length md.b.cl, .int .i64 md.b.stable, .int .i64 md.b.sent, .slice md.b.Ap md.b.pend.length md.b.cp, .slice md.b.Am md.b.marks.length md.b.cm, .slice md.b.Af md.b.fls.length md.b.cf] 28)) = u7 at *
   generalize w7.heap.size = r_d at *
   skip
   go_cut [104] (fun s wx => s = .bool false ∧ Hid (Ext u7 wx))
   case first =>
    have XC : Hid (Ext u7 u7) := hJ (Ext.refl _)
    cases ha : (ea == 0) with
    | false =>
     cases hb : (eb == 0) with
     | false =>
      go_wp2; go_meet
      case rel => exact ⟨rfl, XC⟩
     | true =>
      have HB0 : Hid (VS bb.st ∧ bb.stable = b.stable) := hJ (by have h1 := closed_view VV.out (v := (n, xs)) (by rw [← HEB.out]; simpa using hb); rw [← SV.out] at h1; exact h1)
      obtain ⟨q0, q1, q2, q3, q4, q5, q6, q7, q8⟩ := nine BV.out
      go_wp2_with fail
      refine (valid12_any bb _ RV.out FV.out).mono ?_
      rintro en w9 ⟨rfl, hx2⟩
      clear q0 q1 q2 q3 q4 q5 q6 q7 q8; replace B5 := hJ (B5.out.ext hx2); replace B7 := hJ (B7.out.ext hx2); replace RB := hJ (RB.out.ext hx2); replace RX := hJ (RX.out.ext hx2); replace RF := hJ (RF.out.ext hx2); replace RA := hJ (RA.out.ext hx2); replace BA := hJ (BA.out.ext hx2); replace RV := hJ (RV.out.ext hx2); replace BV := hJ (BV.out.ext hx2); replace RC := hJ (RC.out.ext hx2); replace RDC := hJ (RDC.out.ext hx2); replace BC := hJ (BC.out.ext hx2); replace RD := hJ (RD.out.ext hx2); replace RDD := hJ (RDD.out.ext hx2); replace BD := hJ (BD.out.ext hx2); replace XX := hJ (XX.out.trans hx2); replace XC := hJ (XC.out.trans hx2); clear hx2; rw [(vs_iff.2 HB0.out.1)]
      have p4 : w9.cell? ⟨r_b, 4, none⟩ = some (.int .i64 b.stable) := by rw [← HB0.out.2]; exact BV.out.cell 4
      have p5 : w9.cell? ⟨w.heap.size, 4, none⟩ = some (.int .i64 b.stable) := B5.out.cell 4
      go_wp2; go_meet
      case rel => exact ⟨rfl, XC⟩
    | true =>
     have HA0 : Hid (VS ba.st ∧ ba.stable = b.stable) := hJ (by have h1 := closed_submit VV.out (p := pl) (by rw [← HEA.out]; simpa using ha); rw [← SA.out] at h1; exact h1)
     obtain ⟨q0, q1, q2, q3, q4, q5, q6, q7, q8⟩ := nine BA.out
     go_wp2_with fail
     refine (valid12_any ba _ RA.out FA.out).mono ?_
     rintro en w8 ⟨rfl, hx2⟩
     clear q0 q1 q2 q3 q4 q5 q6 q7 q8; replace B5 := hJ (B5.out.ext hx2); replace B7 := hJ (B7.out.ext hx2); replace RB := hJ (RB.out.ext hx2); replace RX := hJ (RX.out.ext hx2); replace RF := hJ (RF.out.ext hx2); replace RA := hJ (RA.out.ext hx2); replace BA := hJ (BA.out.ext hx2); replace RV := hJ (RV.out.ext hx2); replace BV := hJ (BV.out.ext hx2); replace RC := hJ (RC.out.ext hx2); replace RDC := hJ (RDC.out.ext hx2); replace BC := hJ (BC.out.ext hx2); replace RD := hJ (RD.out.ext hx2); replace RDD := hJ (RDD.out.ext hx2); replace BD := hJ (BD.out.ext hx2); replace XX := hJ (XX.out.trans hx2); replace XC := hJ (XC.out.trans hx2); clear hx2; rw [(vs_iff.2 HA0.out.1)]
     have p4 : w8.cell? ⟨r_a, 4, none⟩ = some (.int .i64 b.stable) := by rw [← HA0.out.2]; exact BA.out.cell 4
     have p5 : w8.cell? ⟨w.heap.size, 4, none⟩ = some (.int .i64 b.stable) := B5.out.cell 4
     cases hb : (eb == 0) with
     | false =>
      go_wp2; go_meet
      case rel => exact ⟨rfl, XC⟩
     | true =>
      have HB0 : Hid (VS bb.st ∧ bb.stable = b.stable) := hJ (by have h1 := closed_view VV.out (v := (n, xs)) (by rw [← HEB.out]; simpa using hb); rw [← SV.out] at h1; exact h1)
      obtain ⟨q0, q1, q2, q3, q4, q5, q6, q7, q8⟩ := nine BV.out
      go_wp2_with fail
      refine (valid12_any bb _ RV.out FV.out).mono ?_
      rintro en w9 ⟨rfl, hx2⟩
      clear q0 q1 q2 q3 q4 q5 q6 q7 q8; replace B5 := hJ (B5.out.ext hx2); replace B7 := hJ (B7.out.ext hx2); replace RB := hJ (RB.out.ext hx2); replace RX := hJ (RX.out.ext hx2); replace RF := hJ (RF.out.ext hx2); replace RA := hJ (RA.out.ext hx2); replace BA := hJ (BA.out.ext hx2); replace RV := hJ (RV.out.ext hx2); replace BV := hJ (BV.out.ext hx2); replace RC := hJ (RC.out.ext hx2); replace RDC := hJ (RDC.out.ext hx2); replace BC := hJ (BC.out.ext hx2); replace RD := hJ (RD.out.ext hx2); replace RDD := hJ (RDD.out.ext hx2); replace BD := hJ (BD.out.ext hx2); replace XX := hJ (XX.out.trans hx2); replace XC := hJ (XC.out.trans hx2); clear hx2; rw [(vs_iff.2 HB0.out.1)]
      have p4 : w9.cell? ⟨r_b, 4, none⟩ = some (.int .i64 b.stable) := by rw [← HB0.out.2]; exact BV.out.cell 4
      have p5 : w9.cell? ⟨w.heap.size, 4, none⟩ = some (.int .i64 b.stable) := B5.out.cell 4
      go_wp2; go_meet
      case rel => exact ⟨rfl, XC⟩
   case rest =>
    obtain ⟨rfl, HXC⟩ := hcut
    have hx2 := HXC.out
    replace B5 := hJ (B5.out.ext hx2); replace B7 := hJ (B7.out.ext hx2); replace RB := hJ (RB.out.ext hx2); replace RX := hJ (RX.out.ext hx2); replace RF := hJ (RF.out.ext hx2); replace RA := hJ (RA.out.ext hx2); replace BA := hJ (BA.out.ext hx2); replace RV := hJ (RV.out.ext hx2); replace BV := hJ (BV.out.ext hx2); replace RC := hJ (RC.out.ext hx2); replace RDC := hJ (RDC.out.ext hx2); replace BC := hJ (BC.out.ext hx2); replace RD := hJ (RD.out.ext hx2); replace RDD := hJ (RDD.out.ext hx2); replace BD := hJ (BD.out.ext hx2); replace XX := hJ (XX.out.trans hx2); clear hx2
    clear HXC; obtain ⟨v0, rfl⟩ : ∃ x, x = wc := ⟨_, rfl⟩
    have GC : Hid (Good b.st ⟨mc.b.st, [], mc.dl⟩) := hJ (by have h1 := closed_tick VV.out; rw [← SC.out] at h1; exact ⟨h1.vs, h1.gr, h1.z⟩)
    have hs0 : 0 ≤ b.stable ∧ b.stable ≤ b.log.length := ⟨VV.out.st0, VV.out.st⟩
    obtain ⟨q0, q1, q2, q3, q4, q5, q6, q7, q8⟩ := nine BC.out
    go_wp2_with fail
    refine (valid12_any mc.b _ RC.out FC.out).mono ?_
    rintro en w8 ⟨rfl, hx2⟩
    clear q0 q1 q2 q3 q4 q5 q6 q7 q8; replace B5 := hJ (B5.out.ext hx2); replace B7 := hJ (B7.out.ext hx2); replace RB := hJ (RB.out.ext hx2); replace RX := hJ (RX.out.ext hx2); replace RF := hJ (RF.out.ext hx2); replace RA := hJ (RA.out.ext hx2); replace BA := hJ (BA.out.ext hx2); replace RV := hJ (RV.out.ext hx2); replace BV := hJ (BV.out.ext hx2); replace RC := hJ (RC.out.ext hx2); replace RDC := hJ (RDC.out.ext hx2); replace BC := hJ (BC.out.ext hx2); replace RD := hJ (RD.out.ext hx2); replace RDD := hJ (RDD.out.ext hx2); replace BD := hJ (BD.out.ext hx2); replace XX := hJ (XX.out.trans hx2); clear hx2; rw [vs_iff.2 GC.out.vs]
    obtain ⟨q0, q1, q2, q3, q4, q5, q6, q7, q8⟩ := nine B5.out
    obtain ⟨y0, y1, y2, y3, y4, y5, y6, y7, y8⟩ := nine BC.out
    go_wp2_with fail
    refine (grown12_any b mc.b mc.Ad mc.cd mc.dl _ RB.out.log RC.out.log RDC.out hs0 GC.out.vs.st GC.out.gr.st GC.out.gr.cut GC.out.gr.pre HSL.out.log.1 FC.out.cl.1 FC.out.log).mono ?_
    rintro en w9 ⟨rfl, hx2⟩
    clear q0 q1 q2 q3 q4 q5 q6 q7 q8; clear y0 y1 y2 y3 y4 y5 y6 y7 y8; replace B5 := hJ (B5.out.ext hx2); replace B7 := hJ (B7.out.ext hx2); replace RB := hJ (RB.out.ext hx2); replace RX := hJ (RX.out.ext hx2); replace RF := hJ (RF.out.ext hx2); replace RA := hJ (RA.out.ext hx2); replace BA := hJ (BA.out.ext hx2); replace RV := hJ (RV.out.ext hx2); replace BV := hJ (BV.out.ext hx2); replace RC := hJ (RC.out.ext hx2); replace RDC := hJ (RDC.out.ext hx2); replace BC := hJ (BC.out.ext hx2); replace RD := hJ (RD.out.ext hx2); replace RDD := hJ (RDD.out.ext hx2); replace BD := hJ (BD.out.ext hx2); replace XX := hJ (XX.out.trans hx2); clear hx2; rcases closed_receive VV.out fr frame with ⟨h1, h2⟩ | ⟨h1, h2⟩
    ·have d1 : (er == 0) = false := by rw [HER.out]; simpa using h1
     have d2 : (er != 0) = true := by rw [HER.out]; simpa using h1
     have d3 : md.dl = [] := by rw [← SD.out] at h2; exact h2
     rw [d3]
     simp only [List.length_nil]
     clear h1 h2; go_wp2; go_ret
     exact ⟨rfl, XX.out⟩
    have d1 : (er == 0) = true := by rw [HER.out]; simpa using h1
    have d2 : (er != 0) = false := by rw [HER.out]; simpa using h1
    have GD : Hid (Good b.st ⟨md.b.st, [], md.dl⟩) := hJ (by rw [← SD.out] at h2; exact ⟨h2.vs, h2.gr, h2.z⟩)
    clear h1 h2; obtain ⟨q0, q1, q2, q3, q4, q5, q6, q7, q8⟩ := nine BD.out
    go_wp2_with fail
    refine (valid12_any md.b _ RD.out FD.out).mono ?_
    rintro en wA ⟨rfl, hx2⟩
    clear q0 q1 q2 q3 q4 q5 q6 q7 q8; replace B5 := hJ (B5.out.ext hx2); replace B7 := hJ (B7.out.ext hx2); replace RB := hJ (RB.out.ext hx2); replace RX := hJ (RX.out.ext hx2); replace RF := hJ (RF.out.ext hx2); replace RA := hJ (RA.out.ext hx2); replace BA := hJ (BA.out.ext hx2); replace RV := hJ (RV.out.ext hx2); replace BV := hJ (BV.out.ext hx2); replace RC := hJ (RC.out.ext hx2); replace RDC := hJ (RDC.out.ext hx2); replace BC := hJ (BC.out.ext hx2); replace RD := hJ (RD.out.ext hx2); replace RDD := hJ (RDD.out.ext hx2); replace BD := hJ (BD.out.ext hx2); replace XX := hJ (XX.out.trans hx2); clear hx2; rw [vs_iff.2 GD.out.vs]
    obtain ⟨q0, q1, q2, q3, q4, q5, q6, q7, q8⟩ := nine B5.out
    obtain ⟨y0, y1, y2, y3, y4, y5, y6, y7, y8⟩ := nine BD.out
    go_wp2_with fail
    refine (grown12_any b md.b md.Ad md.cd md.dl _ RB.out.log RD.out.log RDD.out hs0 GD.out.vs.st GD.out.gr.st GD.out.gr.cut GD.out.gr.pre HSL.out.log.1 FD.out.cl.1 FD.out.log).mono ?_
    rintro en wB ⟨rfl, hx2⟩
    clear q0 q1 q2 q3 q4 q5 q6 q7 q8; clear y0 y1 y2 y3 y4 y5 y6 y7 y8; replace B5 := hJ (B5.out.ext hx2); replace B7 := hJ (B7.out.ext hx2); replace RB := hJ (RB.out.ext hx2); replace RX := hJ (RX.out.ext hx2); replace RF := hJ (RF.out.ext hx2); replace RA := hJ (RA.out.ext hx2); replace BA := hJ (BA.out.ext hx2); replace RV := hJ (RV.out.ext hx2); replace BV := hJ (BV.out.ext hx2); replace RC := hJ (RC.out.ext hx2); replace RDC := hJ (RDC.out.ext hx2); replace BC := hJ (BC.out.ext hx2); replace RD := hJ (RD.out.ext hx2); replace RDD := hJ (RDD.out.ext hx2); replace BD := hJ (BD.out.ext hx2); replace XX := hJ (XX.out.trans hx2); clear hx2; go_wp2; go_ret
    exact ⟨rfl, XX.out⟩
theorem walk {w : World} (b : BM) (h : b.Reads w) (hs : b.Slices) (pl : List UInt8) (num : Int) (A : Option Addr) (c : Nat) (xs : List Int) (_hi : I64 num) (hr : Row w A (ints xs)) (_hc : xs.length ≤ c) (_hm : c ≤ maxLen) (_hx : ∀ x ∈ xs, I64 x) (fr : Int) (_hfr : I64 fr) (Af : Option Addr) (c2 : Nat) (frame : List UInt8) (hf : Row w Af (bytesV frame)) (hfc : frame.length ≤ c2) (_hm2 : c2 ≤ maxLen) (W : World) (hW : w = W) :
  Calls Tryz.prog 5 #[.agg b.cells, .string (strB pl), .agg #[.int .i64 num, .slice A xs.length c], .int .i64 fr, .slice Af frame.length c2] W fun e w' => e = .returned (.bool true) ∧ Ext W w' := by
 subst hW
 exact walk0 b pl num A c xs fr Af c2 frame w h hs hr hf hfc
open Go.ChangeShapes Go.WideShapes Go.ChangeAt
set_option maxRecDepth 100000 in
theorem lifted (os : Os) (started : os.Started) (H : Type) (enc : TypeId × Value → H) :
  ReturnsInHanded {} Tryz.checked os 5 .any (Rows.castClosedSpec.pre6 enc Tryz.prog Tryz.f5 Rows.castClosedRow.domain false) (Rows.castClosedSpec.post enc Tryz.prog Tryz.f5 false true false false) := by
 refine returnsInHanded_of_change (C := Tryz.checked) own started (by kernel_rfl) Tryz.func5
  (ChangeSpec.witness6 (enc := enc) (C := Tryz.checked) false ⟨#[], #[.agg #[.int .i64 0, .slice none 0 0, .int .i64 0, .slice none 0 0, .int .i64 0, .int .i64 0, .slice none 0 0, .slice none 0 0, .slice none 0 0], .string ⟨#[]⟩, .agg #[.int .i64 0, .slice none 0 0], .int .i64 0, .slice none 0 0], []⟩ 8 (by kernel_rfl) (by kernel_rfl) (by kernel_rfl) (by kernel_rfl)) ?_
 intro W base args ds gs before hval0 hW hcnd _
 have hval : ∀ (j : Nat) t v, Tryz.f5.params[j]? = some t → args[j]? = some v → Value.okWide Tryz.prog W .any base t v := hval0
 have hW' := hW
 obtain ⟨p, q, hA0, hV, rfl, hfz, hnd⟩ := hW
 have hA : DataW.TrodAll enc Tryz.prog W 0 (fun _ => true) true Tryz.f5.params.toList args.toList ds p := hA0
 rw [Tryz.params5] at hA hval
 obtain ⟨v0, vs0, d0, ds0, p0, q0, hargs, rfl, rfl, h0, r0⟩ := trodAll_cons hA
 obtain ⟨v1, vs1, d1, ds1, p1, q1, rfl, rfl, rfl, h1, r1⟩ := trodAll_cons r0
 obtain ⟨v2, vs2, d2, ds2, p2, q2, rfl, rfl, rfl, h2, r2⟩ := trodAll_cons r1
 obtain ⟨v3, vs3, d3, ds3, p3, q3, rfl, rfl, rfl, h3, r3⟩ := trodAll_cons r2
 obtain ⟨v4, vs4, d4, ds4, p4, q4, rfl, rfl, rfl, h4, r4⟩ := trodAll_cons r3
 obtain ⟨rfl, rfl, rfl⟩ := trodAll_nil r4
 obtain rfl : args = #[v0, v1, v2, v3, v4] := by cases args; simp_all
 obtain ⟨rfl, rfl⟩ := trodVars_none hV
 have lt0 : ∀ x ∈ p0, x.block < W.heap.size := by obtain ⟨m, hm⟩ := h0; exact DataW.trod_lt m _ _ _ hm
 have lt1 : ∀ x ∈ p1, x.block < W.heap.size := by obtain ⟨m, hm⟩ := h1; exact DataW.trod_lt m _ _ _ hm
 have lt2 : ∀ x ∈ p2, x.block < W.heap.size := by obtain ⟨m, hm⟩ := h2; exact DataW.trod_lt m _ _ _ hm
 have lt3 : ∀ x ∈ p3, x.block < W.heap.size := by obtain ⟨m, hm⟩ := h3; exact DataW.trod_lt m _ _ _ hm
 have lt4 : ∀ x ∈ p4, x.block < W.heap.size := by obtain ⟨m, hm⟩ := h4; exact DataW.trod_lt m _ _ _ hm
 obtain ⟨b0, e0, hr0, hs0, _⟩ := argState (hval 0 28 v0 rfl rfl) h0
 obtain ⟨x1, e1, _⟩ := argStr (hval 1 9 v1 rfl rfl) h1
 obtain ⟨n2, A2, c2, x2, e2, hi2, hc2, hm2, hr2, hx2⟩ := argView (hval 2 46 v2 rfl rfl) h2
 obtain ⟨n3, e3, hi3⟩ := argInt (hval 3 3 v3 rfl rfl) h3
 obtain ⟨A4, c4, x4, e4, hc4, hm4, hr4⟩ := argBytes (hval 4 29 v4 rfl rfl) h4
 clear hA0 hval0; have wk := walk b0 hr0 hs0 x1 n2 A2 c2 x2 hi2 hr2 hc2 hm2 hx2 n3 hi3 A4 c4 x4 hr4 hc4 hm4 W rfl
 rw [← e0, ← e1, ← e2, ← e3, ← e4] at wk
 refine wk.mono fun e W' ⟨he, bel⟩ => ?_
 subst he
 exact ⟨_, rfl, _, _, _, [], _, [], hW', trodAll_mk1 (shut_bool Tryz.underlying4 _), (trodAll_cons_mk (Below.trod laidOut (by kernel_rfl) (of_decide_eq_true (by kernel_rfl)) h0 bel lt0) (trodAll_cons_mk (Below.trod laidOut (by kernel_rfl) (of_decide_eq_true (by kernel_rfl)) h1 bel lt1) (trodAll_cons_mk (Below.trod laidOut (by kernel_rfl) (of_decide_eq_true (by kernel_rfl)) h2 bel lt2) (trodAll_cons_mk (Below.trod laidOut (by kernel_rfl) (of_decide_eq_true (by kernel_rfl)) h3 bel lt3) (trodAll_cons_mk (Below.trod laidOut (by kernel_rfl) (of_decide_eq_true (by kernel_rfl)) h4 bel lt4) trodAll_mk0))))), rfl, bel.frame _, fun h => by cases h⟩
theorem over : Rows.castClosedRow.holds Tryz.pinned (OpenSpec.ofChange Rows.castClosedSpec) :=
 OpenClaim.holds_of_wide 5 Tryz.f5 rfl rfl rfl rfl rfl rfl rfl ⟨rfl, rfl, rfl, rfl, rfl⟩ rfl rfl rfl rfl rfl (by kernel_rfl) Tryz.func5 (by kernel_rfl)
  (of_decide_eq_true (by kernel_rfl)) (by unfold Func.isWrapper; first | (rw [if_pos (by decide +kernel)]; kernel_rfl) | (rw [if_neg (by decide +kernel)]; exact ⟨rfl, rfl⟩))
  (fun os started H enc _ => lifted os started H enc)
/-- the statement -/
theorem proved : Rows.CastClosedSaid := over
#print axioms proved
end Go.Proofs.YtponbabbabnaeaaGreat.castClosed
