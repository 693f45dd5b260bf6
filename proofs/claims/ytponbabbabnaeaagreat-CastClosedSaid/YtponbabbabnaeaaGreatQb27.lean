/- Part 27 of the proof: contracts of functions that the statement reaches. Conditions: as each theorem says. -/
import Derived.Test.YtponbabbabnaeaaGreatQb01
import Derived.Test.YtponbabbabnaeaaGreatQb26
namespace Go.Proofs.YtponbabbabnaeaaGreat
open Go.RowKit
set_option maxRecDepth 100000 in
set_option maxHeartbeats 2000000 in
theorem handleK11 (m : CM) (B : Nat) (col : Nat → Nat) (p : Nat) (fr num first mst : Int) (pay : List UInt8) (ents : List Ent) (Ae : Option Addr) (ce : Nat) (w : World) (h : CS w B col p m) (ok : OkS m.b.st) (hvx : ∀ v ∈ m.b.vs, v.xs.length ≤ 1000) (ho : entE.Own w B (.slice Ae ents.length ce) ents) (hce : ColV col 2 (.slice Ae ents.length ce)) (hep : ∀ e ∈ ents, e.p.length ≤ 6000)
  (hll : m.b.log.length ≤ 2000) (hpp : pay.length ≤ 1000000) :
  Calls Tryz.prog 73 #[.pointer (some ⟨p, 0, none⟩), .int .i64 fr, msgV ⟨11, num, first, mst, pay, ents⟩ Ae ce] w (Does B col p w (handleF m.cs fr ⟨11, num, first, mst, pay, ents⟩)) := by
 have H := hJ h; have OK := hJ ok; have HVX := hJ hvx; have HO := hJ ho; have HCE := hJ hce; have HEP := hJ hep
 have E0 : Hid (Ext w (w.alloc (.cells #[.int .i64 11, .int .i64 num, .int .i64 first, .int .i64 mst, .string (strB pay), .slice Ae ents.length ce] 110))) := hJ (Ext.new _ _)
 have M0 : Hid (BIs (w.alloc (.cells #[.int .i64 11, .int .i64 num, .int .i64 first, .int .i64 mst, .string (strB pay), .slice Ae ents.length ce] 110)) w.heap.size #[.int .i64 11, .int .i64 num, .int .i64 first, .int .i64 mst, .string (strB pay), .slice Ae ents.length ce] 110) := hJ (BIs.new _ _ _)
 have hp := h.lt
 have q1 : w.cell? ⟨p, 1, none⟩ = some (.slice m.b.Av m.b.vs.length m.b.cv) := h.cell 1
 have hvl : 0 < m.b.vs.length := by have h1 := ok.vs; simpa [BM.st, vws_len] using h1
 have HFT := hJ h.fits
 have hfv := h.fits.vs
 obtain ⟨v, hv, hlv, hcall⟩ := last_m m.b.Av m.b.cv m.b.vs (w.alloc (.cells #[.int .i64 11, .int .i64 num, .int .i64 first, .int .i64 mst, .string (strB pay), .slice Ae ents.length ce] 110)) (h.ext E0.out).lies.vs hvl (by omega)
 have HXR : Hid (Row (w.alloc (.cells #[.int .i64 11, .int .i64 num, .int .i64 first, .int .i64 mst, .string (strB pay), .slice Ae ents.length ce] 110)) v.A (ints v.xs)) := hJ (((h.ext E0.out).lies.vs.2 v hv).2 (v.A, ints v.xs) (by simp [viewE]))
 have hx16 : v.xs.length ≤ 16 := by
  have h1 := (ok_maj ok).2.1
  have h2 : lastV m.b.st.views = (v.n, v.xs) := hlv
  rw [h2] at h1; exact h1
 have HLV : Hid (lastV m.b.st.views = (v.n, v.xs)) := hJ hlv
 have HCALL := hJ hcall
 obtain ⟨nv, Ax, cx, xs⟩ := v
 simp only at HXR hx16 HLV HCALL
 have hfd := field_view1
 obtain ⟨hb, hhb⟩ : ∃ b, hasB xs fr = b := ⟨_, rfl⟩
 obtain ⟨hs, hhs⟩ : ∃ b, hasB xs m.b.self = b := ⟨_, rfl⟩
 obtain ⟨sq, hsq⟩ : ∃ s, seqrF (nv, xs) = s := ⟨_, rfl⟩
 obtain ⟨ob, hob⟩ : ∃ b, openB m.b.st = b := ⟨_, rfl⟩
 obtain ⟨lb, hlb⟩ : ∃ b, leadB m.b.st = b := ⟨_, rfl⟩
 obtain ⟨pb, hpb⟩ : ∃ b, possB m.b.st.views (fr, first, ents) = b := ⟨_, rfl⟩
 have HHB := hJ hhb; have HHS := hJ hhs; have HSQ := hJ hsq; have HOB := hJ hob; have HLB := hJ hlb; have HPB := hJ hpb
 have HR : Hid (handleF m.cs fr ⟨11, num, first, mst, pay, ents⟩ = if (ob && (lb && hb)) = true then submittedF m.cs fr ⟨11, num, first, mst, pay, ents⟩ else m.cs) := hJ (by
  subst hhb hhs hsq hob hlb hpb
  rw [handle_eq m fr 11 num first mst pay ents hlv]
  rfl)
 obtain ⟨c1, hc1⟩ : ∃ x, x = (ob && (lb && hb)) := ⟨_, rfl⟩
 rw [← hc1] at HR
 have HC1 := hJ hc1
 clear hc1; clear h ok hcall hv hlv hfv hvx ho hce hep hhb hhs hsq hob hlb hpb; go_enter Tryz.func73, Tryz.ntmps73
 go_wp2_with fail
 refine HCALL.out.mono ?_
 rintro en w1 ⟨rfl, hx1⟩
 have X1 := hJ hx1
 clear hx1 q1 HCALL; have E1 : Hid (Ext w1 (w1.alloc (.cells #[.int .i64 nv, .slice Ax xs.length cx] 46))) := hJ (Ext.new _ _)
 have T1 : Hid (BIs (w1.alloc (.cells #[.int .i64 nv, .slice Ax xs.length cx] 46)) w1.heap.size #[.int .i64 nv, .slice Ax xs.length cx] 46) := hJ (BIs.new _ _ _)
 go_wp2_with fail
 refine (contains_c Ax cx xs fr _ (HXR.out.ext (X1.out.trans E1.out)) (by omega) hb HHB.out).mono ?_
 rintro en w1' ⟨rfl, rfl⟩
 go_wp2_with fail
 refine (sequencer_b nv Ax cx xs _ (HXR.out.ext (X1.out.trans E1.out)) (by omega) sq HSQ.out).mono ?_
 rintro en w3 ⟨rfl, hx3⟩
 have X03 : Hid (Ext (w.alloc (.cells #[.int .i64 11, .int .i64 num, .int .i64 first, .int .i64 mst, .string (strB pay), .slice Ae ents.length ce] 110)) w3) := hJ ((X1.out.trans E1.out).trans hx3)
 have HZ : Hid (Ext w w3) := hJ (E0.out.trans X03.out)
 have C3 := hJ (H.out.ext HZ.out)
 have M3 := hJ (M0.out.ext X03.out)
 have T3 := hJ (T1.out.ext hx3)
 have R3 : Hid (Row w3 Ax (ints xs)) := hJ (HXR.out.ext X03.out)
 clear hx3 X03 E1 T1 X1 E0 M0 HXR; generalize w1.heap.size = r_t at *
 go_upto_region 4 with fail
 obtain ⟨W0, rfl⟩ : ∃ x, x = w3 := ⟨_, rfl⟩
 go_cut [24] (fun s wx => s = .bool c1 ∧ Hid (CS wx B col p m) ∧ Hid (BIs wx w.heap.size #[.int .i64 11, .int .i64 num, .int .i64 first, .int .i64 mst, .string (strB pay), .slice Ae ents.length ce] 110) ∧ Hid (BIs wx r_t #[.int .i64 nv, .slice Ax xs.length cx] 46) ∧ Hid (Row wx Ax (ints xs)) ∧ Hid (Ext w wx))
 case first =>
  obtain ⟨q0, q1, q2, q3, q4, q5, q6, q7, q8⟩ := nineC C3.out
  obtain ⟨b0, b1, b2, b3, b4, b5⟩ := six M3.out
  obtain ⟨t0, t1⟩ := twoB T3.out
  go_wp2_with fail
  refine (open_any m.b W0 C3.out.lies.reads hvl HFT.out).mono ?_
  rintro en w4 ⟨rfl, hx4⟩
  rw [HOB.out]
  replace C3 := hJ (C3.out.ext hx4); replace M3 := hJ (M3.out.ext hx4); replace T3 := hJ (T3.out.ext hx4); replace R3 := hJ (R3.out.ext hx4); replace HZ := hJ (HZ.out.trans hx4); clear hx4
  clear q0 q1 q2 q3 q4 q5 q6 q7 q8 b0 b1 b2 b3 b4 b5 t0 t1; obtain ⟨q0, q1, q2, q3, q4, q5, q6, q7, q8⟩ := nineC C3.out
  obtain ⟨b0, b1, b2, b3, b4, b5⟩ := six M3.out
  obtain ⟨t0, t1⟩ := twoB T3.out
  cases ob with
  | false =>
   go_wp2; go_meet
   case rel => exact ⟨by rw [HC1.out]; rfl, C3, M3, T3, R3, HZ⟩
  | true =>
   go_wp2_with fail
   refine (leads_any m.b w4 C3.out.lies.reads hvl HFT.out).mono ?_
   rintro en w5 ⟨rfl, hx4⟩
   rw [HLB.out]
   replace C3 := hJ (C3.out.ext hx4); replace M3 := hJ (M3.out.ext hx4); replace T3 := hJ (T3.out.ext hx4); replace R3 := hJ (R3.out.ext hx4); replace HZ := hJ (HZ.out.trans hx4); clear hx4
   clear q0 q1 q2 q3 q4 q5 q6 q7 q8 b0 b1 b2 b3 b4 b5 t0 t1; obtain ⟨q0, q1, q2, q3, q4, q5, q6, q7, q8⟩ := nineC C3.out
   obtain ⟨b0, b1, b2, b3, b4, b5⟩ := six M3.out
   obtain ⟨t0, t1⟩ := twoB T3.out
   cases lb with
   | false =>
    go_wp2; go_meet
    case rel => exact ⟨by rw [HC1.out]; rfl, C3, M3, T3, R3, HZ⟩
   | true =>
    go_wp2; go_meet
    case rel => exact ⟨by rw [HC1.out]; rfl, C3, M3, T3, R3, HZ⟩
 case rest =>
  obtain ⟨rfl, HC0, HM0, HT0, HR0, HZ0⟩ := hcut
  clear C3 M3 T3 R3 HZ; obtain ⟨C3, M3, T3, R3, HZ⟩ : Hid (CS wc B col p m) ∧ Hid (BIs wc w.heap.size #[.int .i64 11, .int .i64 num, .int .i64 first, .int .i64 mst, .string (strB pay), .slice Ae ents.length ce] 110) ∧ Hid (BIs wc r_t #[.int .i64 nv, .slice Ax xs.length cx] 46) ∧ Hid (Row wc Ax (ints xs)) ∧ Hid (Ext w wc) := ⟨HC0, HM0, HT0, HR0, HZ0⟩
  clear HC0 HM0 HT0 HR0 HZ0; obtain ⟨W1, rfl⟩ : ∃ x, x = wc := ⟨wc, rfl⟩
  cases c1 with
  | false =>
   rw [if_neg (by simp)] at HR
   obtain ⟨q0, q1, q2, q3, q4, q5, q6, q7, q8⟩ := nineC C3.out
   obtain ⟨b0, b1, b2, b3, b4, b5⟩ := six M3.out
   obtain ⟨t0, t1⟩ := twoB T3.out
   go_upto_region 15 with fail
   clear q0 q1 q2 q3 q4 q5 q6 q7 q8 b0 b1 b2 b3 b4 b5 t0 t1; refine E_begin 33 (fun w' => w'.cell? ⟨p, 0, none⟩ = some (.int .i64 m.b.self) ∧ w'.cell? ⟨p, 1, none⟩ = some (.slice m.b.Av m.b.vs.length m.b.cv) ∧ w'.cell? ⟨p, 2, none⟩ = some (.int .i64 m.b.base) ∧ w'.cell? ⟨p, 3, none⟩ = some (.slice m.b.Al m.b.log.length m.b.cl) ∧ w'.cell? ⟨p, 4, none⟩ = some (.int .i64 m.b.stable) ∧ w'.cell? ⟨p, 5, none⟩ = some (.int .i64 m.b.sent) ∧ w'.cell? ⟨p, 6, none⟩ = some (.slice m.b.Ap m.b.pend.length m.b.cp) ∧ w'.cell? ⟨p, 7, none⟩ = some (.slice m.b.Am m.b.marks.length m.b.cm) ∧ w'.cell? ⟨p, 8, none⟩ = some (.slice m.b.Af m.b.fls.length m.b.cf) ∧ w'.cell? ⟨w.heap.size, 0, none⟩ = some (.int .i64 11) ∧ w'.cell? ⟨r_t, 1, none⟩ = some (.slice Ax xs.length cx)) (by kernel_rfl) ⟨(C3.out.ext Ext.drew1).cell 0, (C3.out.ext Ext.drew1).cell 1, (C3.out.ext Ext.drew1).cell 2, (C3.out.ext Ext.drew1).cell 3, (C3.out.ext Ext.drew1).cell 4, (C3.out.ext Ext.drew1).cell 5, (C3.out.ext Ext.drew1).cell 6, (C3.out.ext Ext.drew1).cell 7, (C3.out.ext Ext.drew1).cell 8, (M3.out.ext Ext.drew1).cell 0, (T3.out.ext Ext.drew1).cell 1⟩ (fun hHeld => ?_)
   have hx4 : Ext W1 W1.drew := Ext.drew1
   replace C3 := hJ (C3.out.ext hx4); replace M3 := hJ (M3.out.ext hx4); replace T3 := hJ (T3.out.ext hx4); replace R3 := hJ (R3.out.ext hx4); replace HZ := hJ (HZ.out.trans hx4); clear hx4
   generalize W1.drew = u1 at *
   refine E_t 0 138 ?_; refine E_t 1 139 ?_; refine E_t 2 140 ?_; refine E_t 3 141 ?_; refine E_s 4 142 ?_; refine E_s 5 143 ?_; refine E_s 6 144 ?_; refine E_s 7 145 ?_; refine E_s 8 146 ?_; refine E_s 9 147 ?_; refine E_t 10 148 ?_; refine E_t 11 149 ?_; refine E_s 12 150 ?_; refine E_s 13 151 ?_; refine E_s 14 152 ?_; refine E_s 15 153 ?_; refine E_s 16 154 ?_; refine E_s 17 155 ?_; refine E_t 18 156 ?_; refine E_t 19 157 ?_; refine E_s 20 158 ?_; refine E_t 21 159 ?_; refine E_t 22 160 ?_; refine E_s 23 161 ?_; refine E_s 24 162 ?_; refine E_s 25 163 ?_; refine E_s 26 164 ?_; refine E_s 27 165 ?_; refine E_s 28 166 ?_; refine E_s 29 167 ?_; refine E_s 30 168 ?_; refine E_t 31 169 ?_; refine E_t 32 137 ?_; refine E_end (by kernel_rfl) (by rfl) ?_
   go_wp2; go_end0; rw [HR.out]
   exact ⟨m, col, rfl, C3.out, rfl, Stp.ext' H.out.Bsz HZ.out⟩
  | true =>
   rw [if_pos rfl] at HR
   obtain ⟨q0, q1, q2, q3, q4, q5, q6, q7, q8⟩ := nineC C3.out
   obtain ⟨b0, b1, b2, b3, b4, b5⟩ := six M3.out
   obtain ⟨t0, t1⟩ := twoB T3.out
   go_wp2_with fail
   refine (submitted_any m B col p fr 11 num first mst pay ents Ae ce W1 C3.out hll hpp).mono ?_
   rintro en w6 ⟨m6, col6, rfl, hc6, hm6, hs6⟩
   go_wp2; go_end0; rw [HR.out]
   exact ⟨m6, col6, rfl, hc6, hm6, (Stp.ext' H.out.Bsz HZ.out).trans hs6⟩
set_option maxRecDepth 100000 in
set_option maxHeartbeats 2000000 in
theorem handleK12 (m : CM) (B : Nat) (col : Nat → Nat) (p : Nat) (fr num first mst : Int) (pay : List UInt8) (ents : List Ent) (Ae : Option Addr) (ce : Nat) (w : World) (h : CS w B col p m) (ok : OkS m.b.st) (hvx : ∀ v ∈ m.b.vs, v.xs.length ≤ 1000) (ho : entE.Own w B (.slice Ae ents.length ce) ents) (hce : ColV col 2 (.slice Ae ents.length ce)) (hep : ∀ e ∈ ents, e.p.length ≤ 6000)
  (hdl : m.dl.length ≤ 100000) (hee : ents.length ≤ ce) (hel : ents.length ≤ 2000) (hf1 : 0 ≤ first) (hf2 : first ≤ 1099511627776) :
  Calls Tryz.prog 73 #[.pointer (some ⟨p, 0, none⟩), .int .i64 fr, msgV ⟨12, num, first, mst, pay, ents⟩ Ae ce] w (Does B col p w (handleF m.cs fr ⟨12, num, first, mst, pay, ents⟩)) := by
 have H := hJ h; have OK := hJ ok; have HVX := hJ hvx; have HO := hJ ho; have HCE := hJ hce; have HEP := hJ hep
 have E0 : Hid (Ext w (w.alloc (.cells #[.int .i64 12, .int .i64 num, .int .i64 first, .int .i64 mst, .string (strB pay), .slice Ae ents.length ce] 110))) := hJ (Ext.new _ _)
 have M0 : Hid (BIs (w.alloc (.cells #[.int .i64 12, .int .i64 num, .int .i64 first, .int .i64 mst, .string (strB pay), .slice Ae ents.length ce] 110)) w.heap.size #[.int .i64 12, .int .i64 num, .int .i64 first, .int .i64 mst, .string (strB pay), .slice Ae ents.length ce] 110) := hJ (BIs.new _ _ _)
 have hp := h.lt
 have q1 : w.cell? ⟨p, 1, none⟩ = some (.slice m.b.Av m.b.vs.length m.b.cv) := h.cell 1
 have hvl : 0 < m.b.vs.length := by have h1 := ok.vs; simpa [BM.st, vws_len] using h1
 have HFT := hJ h.fits
 have hfv := h.fits.vs
 obtain ⟨v, hv, hlv, hcall⟩ := last_m m.b.Av m.b.cv m.b.vs (w.alloc (.cells #[.int .i64 12, .int .i64 num, .int .i64 first, .int .i64 mst, .string (strB pay), .slice Ae ents.length ce] 110)) (h.ext E0.out).lies.vs hvl (by omega)
 have HXR : Hid (Row (w.alloc (.cells #[.int .i64 12, .int .i64 num, .int .i64 first, .int .i64 mst, .string (strB pay), .slice Ae ents.length ce] 110)) v.A (ints v.xs)) := hJ (((h.ext E0.out).lies.vs.2 v hv).2 (v.A, ints v.xs) (by simp [viewE]))
 have hx16 : v.xs.length ≤ 16 := by
  have h1 := (ok_maj ok).2.1
  have h2 : lastV m.b.st.views = (v.n, v.xs) := hlv
  rw [h2] at h1; exact h1
 have HLV : Hid (lastV m.b.st.views = (v.n, v.xs)) := hJ hlv
 have HCALL := hJ hcall
 obtain ⟨nv, Ax, cx, xs⟩ := v
 simp only at HXR hx16 HLV HCALL
 have hfd := field_view1
 obtain ⟨hb, hhb⟩ : ∃ b, hasB xs fr = b := ⟨_, rfl⟩
 obtain ⟨hs, hhs⟩ : ∃ b, hasB xs m.b.self = b := ⟨_, rfl⟩
 obtain ⟨sq, hsq⟩ : ∃ s, seqrF (nv, xs) = s := ⟨_, rfl⟩
 obtain ⟨ob, hob⟩ : ∃ b, openB m.b.st = b := ⟨_, rfl⟩
 obtain ⟨lb, hlb⟩ : ∃ b, leadB m.b.st = b := ⟨_, rfl⟩
 obtain ⟨pb, hpb⟩ : ∃ b, possB m.b.st.views (fr, first, ents) = b := ⟨_, rfl⟩
 have HHB := hJ hhb; have HHS := hJ hhs; have HSQ := hJ hsq; have HOB := hJ hob; have HLB := hJ hlb; have HPB := hJ hpb
 have HR : Hid (handleF m.cs fr ⟨12, num, first, mst, pay, ents⟩ = if (ob && (!lb && fr == sq)) = true then appendedF m.cs ⟨12, num, first, mst, pay, ents⟩ else m.cs) := hJ (by
  subst hhb hhs hsq hob hlb hpb
  rw [handle_eq m fr 12 num first mst pay ents hlv]
  rfl)
 obtain ⟨c1, hc1⟩ : ∃ x, x = (ob && (!lb && fr == sq)) := ⟨_, rfl⟩
 rw [← hc1] at HR
 have HC1 := hJ hc1
 clear hc1; clear h ok hcall hv hlv hfv hvx ho hce hep hhb hhs hsq hob hlb hpb; go_enter Tryz.func73, Tryz.ntmps73
 go_wp2_with fail
 refine HCALL.out.mono ?_
 rintro en w1 ⟨rfl, hx1⟩
 have X1 := hJ hx1
 clear hx1 q1 HCALL; have E1 : Hid (Ext w1 (w1.alloc (.cells #[.int .i64 nv, .slice Ax xs.length cx] 46))) := hJ (Ext.new _ _)
 have T1 : Hid (BIs (w1.alloc (.cells #[.int .i64 nv, .slice Ax xs.length cx] 46)) w1.heap.size #[.int .i64 nv, .slice Ax xs.length cx] 46) := hJ (BIs.new _ _ _)
 go_wp2_with fail
 refine (contains_c Ax cx xs fr _ (HXR.out.ext (X1.out.trans E1.out)) (by omega) hb HHB.out).mono ?_
 rintro en w1' ⟨rfl, rfl⟩
 go_wp2_with fail
 refine (sequencer_b nv Ax cx xs _ (HXR.out.ext (X1.out.trans E1.out)) (by omega) sq HSQ.out).mono ?_
 rintro en w3 ⟨rfl, hx3⟩
 have X03 : Hid (Ext (w.alloc (.cells #[.int .i64 12, .int .i64 num, .int .i64 first, .int .i64 mst, .string (strB pay), .slice Ae ents.length ce] 110)) w3) := hJ ((X1.out.trans E1.out).trans hx3)
 have HZ : Hid (Ext w w3) := hJ (E0.out.trans X03.out)
 have C3 := hJ (H.out.ext HZ.out)
 have M3 := hJ (M0.out.ext X03.out)
 have T3 := hJ (T1.out.ext hx3)
 have R3 : Hid (Row w3 Ax (ints xs)) := hJ (HXR.out.ext X03.out)
 clear hx3 X03 E1 T1 X1 E0 M0 HXR; generalize w1.heap.size = r_t at *
 go_upto_region 4 with fail
 obtain ⟨W0, rfl⟩ : ∃ x, x = w3 := ⟨_, rfl⟩
 obtain ⟨q0, q1, q2, q3, q4, q5, q6, q7, q8⟩ := nineC C3.out
 obtain ⟨b0, b1, b2, b3, b4, b5⟩ := six M3.out
 obtain ⟨t0, t1⟩ := twoB T3.out
 go_upto_region 6 with fail
 clear q0 q1 q2 q3 q4 q5 q6 q7 q8 b0 b1 b2 b3 b4 b5 t0 t1; go_cut [49] (fun s wx => s = .bool c1 ∧ Hid (CS wx B col p m) ∧ Hid (BIs wx w.heap.size #[.int .i64 12, .int .i64 num, .int .i64 first, .int .i64 mst, .string (strB pay), .slice Ae ents.length ce] 110) ∧ Hid (BIs wx r_t #[.int .i64 nv, .slice Ax xs.length cx] 46) ∧ Hid (Row wx Ax (ints xs)) ∧ Hid (Ext w wx))
 case first =>
  obtain ⟨q0, q1, q2, q3, q4, q5, q6, q7, q8⟩ := nineC C3.out
  obtain ⟨b0, b1, b2, b3, b4, b5⟩ := six M3.out
  obtain ⟨t0, t1⟩ := twoB T3.out
  go_wp2_with fail
  refine (open_any m.b W0 C3.out.lies.reads hvl HFT.out).mono ?_
  rintro en w4 ⟨rfl, hx4⟩
  rw [HOB.out]
  replace C3 := hJ (C3.out.ext hx4); replace M3 := hJ (M3.out.ext hx4); replace T3 := hJ (T3.out.ext hx4); replace R3 := hJ (R3.out.ext hx4); replace HZ := hJ (HZ.out.trans hx4); clear hx4
  clear q0 q1 q2 q3 q4 q5 q6 q7 q8 b0 b1 b2 b3 b4 b5 t0 t1; obtain ⟨q0, q1, q2, q3, q4, q5, q6, q7, q8⟩ := nineC C3.out
  obtain ⟨b0, b1, b2, b3, b4, b5⟩ := six M3.out
  obtain ⟨t0, t1⟩ := twoB T3.out
  cases ob with
  | false =>
   go_wp2; go_meet
   case rel => exact ⟨by rw [HC1.out]; rfl, C3, M3, T3, R3, HZ⟩
  | true =>
   go_wp2_with fail
   refine (leads_any m.b w4 C3.out.lies.reads hvl HFT.out).mono ?_
   rintro en w5 ⟨rfl, hx4⟩
   rw [HLB.out]
   replace C3 := hJ (C3.out.ext hx4); replace M3 := hJ (M3.out.ext hx4); replace T3 := hJ (T3.out.ext hx4); replace R3 := hJ (R3.out.ext hx4); replace HZ := hJ (HZ.out.trans hx4); clear hx4
   clear q0 q1 q2 q3 q4 q5 q6 q7 q8 b0 b1 b2 b3 b4 b5 t0 t1; obtain ⟨q0, q1, q2, q3, q4, q5, q6, q7, q8⟩ := nineC C3.out
   obtain ⟨b0, b1, b2, b3, b4, b5⟩ := six M3.out
   obtain ⟨t0, t1⟩ := twoB T3.out
   cases lb with
   | true =>
    go_wp2; go_meet
    case rel => exact ⟨by rw [HC1.out]; rfl, C3, M3, T3, R3, HZ⟩
   | false =>
    go_wp2; go_meet
    case rel => exact ⟨by rw [HC1.out]; rfl, C3, M3, T3, R3, HZ⟩
 case rest =>
  obtain ⟨rfl, HC0, HM0, HT0, HR0, HZ0⟩ := hcut
  clear C3 M3 T3 R3 HZ; obtain ⟨C3, M3, T3, R3, HZ⟩ : Hid (CS wc B col p m) ∧ Hid (BIs wc w.heap.size #[.int .i64 12, .int .i64 num, .int .i64 first, .int .i64 mst, .string (strB pay), .slice Ae ents.length ce] 110) ∧ Hid (BIs wc r_t #[.int .i64 nv, .slice Ax xs.length cx] 46) ∧ Hid (Row wc Ax (ints xs)) ∧ Hid (Ext w wc) := ⟨HC0, HM0, HT0, HR0, HZ0⟩
  clear HC0 HM0 HT0 HR0 HZ0; obtain ⟨W1, rfl⟩ : ∃ x, x = wc := ⟨wc, rfl⟩
  cases c1 with
  | false =>
   rw [if_neg (by simp)] at HR
   obtain ⟨q0, q1, q2, q3, q4, q5, q6, q7, q8⟩ := nineC C3.out
   obtain ⟨b0, b1, b2, b3, b4, b5⟩ := six M3.out
   obtain ⟨t0, t1⟩ := twoB T3.out
   go_upto_region 15 with fail
   clear q0 q1 q2 q3 q4 q5 q6 q7 q8 b0 b1 b2 b3 b4 b5 t0 t1; refine E_begin 33 (fun w' => w'.cell? ⟨p, 0, none⟩ = some (.int .i64 m.b.self) ∧ w'.cell? ⟨p, 1, none⟩ = some (.slice m.b.Av m.b.vs.length m.b.cv) ∧ w'.cell? ⟨p, 2, none⟩ = some (.int .i64 m.b.base) ∧ w'.cell? ⟨p, 3, none⟩ = some (.slice m.b.Al m.b.log.length m.b.cl) ∧ w'.cell? ⟨p, 4, none⟩ = some (.int .i64 m.b.stable) ∧ w'.cell? ⟨p, 5, none⟩ = some (.int .i64 m.b.sent) ∧ w'.cell? ⟨p, 6, none⟩ = some (.slice m.b.Ap m.b.pend.length m.b.cp) ∧ w'.cell? ⟨p, 7, none⟩ = some (.slice m.b.Am m.b.marks.length m.b.cm) ∧ w'.cell? ⟨p, 8, none⟩ = some (.slice m.b.Af m.b.fls.length m.b.cf) ∧ w'.cell? ⟨w.heap.size, 0, none⟩ = some (.int .i64 12) ∧ w'.cell? ⟨r_t, 1, none⟩ = some (.slice Ax xs.length cx)) (by kernel_rfl) ⟨(C3.out.ext Ext.drew1).cell 0, (C3.out.ext Ext.drew1).cell 1, (C3.out.ext Ext.drew1).cell 2, (C3.out.ext Ext.drew1).cell 3, (C3.out.ext Ext.drew1).cell 4, (C3.out.ext Ext.drew1).cell 5, (C3.out.ext Ext.drew1).cell 6, (C3.out.ext Ext.drew1).cell 7, (C3.out.ext Ext.drew1).cell 8, (M3.out.ext Ext.drew1).cell 0, (T3.out.ext Ext.drew1).cell 1⟩ (fun hHeld => ?_)
   have hx4 : Ext W1 W1.drew := Ext.drew1
   replace C3 := hJ (C3.out.ext hx4); replace M3 := hJ (M3.out.ext hx4); replace T3 := hJ (T3.out.ext hx4); replace R3 := hJ (R3.out.ext hx4); replace HZ := hJ (HZ.out.trans hx4); clear hx4
   generalize W1.drew = u1 at *
   refine E_t 0 138 ?_; refine E_t 1 139 ?_; refine E_t 2 140 ?_; refine E_t 3 141 ?_; refine E_s 4 142 ?_; refine E_s 5 143 ?_; refine E_s 6 144 ?_; refine E_s 7 145 ?_; refine E_s 8 146 ?_; refine E_s 9 147 ?_; refine E_t 10 148 ?_; refine E_t 11 149 ?_; refine E_s 12 150 ?_; refine E_s 13 151 ?_; refine E_s 14 152 ?_; refine E_s 15 153 ?_; refine E_s 16 154 ?_; refine E_s 17 155 ?_; refine E_t 18 156 ?_; refine E_t 19 157 ?_; refine E_s 20 158 ?_; refine E_t 21 159 ?_; refine E_t 22 160 ?_; refine E_s 23 161 ?_; refine E_s 24 162 ?_; refine E_s 25 163 ?_; refine E_s 26 164 ?_; refine E_s 27 165 ?_; refine E_s 28 166 ?_; refine E_s 29 167 ?_; refine E_s 30 168 ?_; refine E_t 31 169 ?_; refine E_t 32 137 ?_; refine E_end (by kernel_rfl) (by rfl) ?_
   go_wp2; go_end0; rw [HR.out]
   exact ⟨m, col, rfl, C3.out, rfl, Stp.ext' H.out.Bsz HZ.out⟩
  | true =>
   rw [if_pos rfl] at HR
   obtain ⟨q0, q1, q2, q3, q4, q5, q6, q7, q8⟩ := nineC C3.out
   obtain ⟨b0, b1, b2, b3, b4, b5⟩ := six M3.out
   obtain ⟨t0, t1⟩ := twoB T3.out
   go_wp2_with fail
   refine (appended_any m B col p ⟨12, num, first, mst, pay, ents⟩ Ae ce W1 C3.out OK.out (by exact HO.out.row.ext HZ.out) (by exact hee) (by exact hel) (by exact HEP.out) (by exact hf1) (by exact hf2) hdl).mono ?_
   rintro en w6 ⟨m6, col6, rfl, hc6, hm6, hs6⟩
   go_wp2; go_end0; rw [HR.out]
   exact ⟨m6, col6, rfl, hc6, hm6, (Stp.ext' H.out.Bsz HZ.out).trans hs6⟩
set_option maxRecDepth 100000 in
set_option maxHeartbeats 2000000 in
theorem handleK13 (m : CM) (B : Nat) (col : Nat → Nat) (p : Nat) (fr num first mst : Int) (pay : List UInt8) (ents : List Ent) (Ae : Option Addr) (ce : Nat) (w : World) (h : CS w B col p m) (ok : OkS m.b.st) (hvx : ∀ v ∈ m.b.vs, v.xs.length ≤ 1000) (ho : entE.Own w B (.slice Ae ents.length ce) ents) (hce : ColV col 2 (.slice Ae ents.length ce)) (hep : ∀ e ∈ ents, e.p.length ≤ 6000)
  (hdl : m.dl.length ≤ 100000) (hmn : m.b.marks.length ≤ 50000) :
  Calls Tryz.prog 73 #[.pointer (some ⟨p, 0, none⟩), .int .i64 fr, msgV ⟨13, num, first, mst, pay, ents⟩ Ae ce] w (Does B col p w (handleF m.cs fr ⟨13, num, first, mst, pay, ents⟩)) := by
 have H := hJ h; have OK := hJ ok; have HVX := hJ hvx; have HO := hJ ho; have HCE := hJ hce; have HEP := hJ hep
 have E0 : Hid (Ext w (w.alloc (.cells #[.int .i64 13, .int .i64 num, .int .i64 first, .int .i64 mst, .string (strB pay), .slice Ae ents.length ce] 110))) := hJ (Ext.new _ _)
 have M0 : Hid (BIs (w.alloc (.cells #[.int .i64 13, .int .i64 num, .int .i64 first, .int .i64 mst, .string (strB pay), .slice Ae ents.length ce] 110)) w.heap.size #[.int .i64 13, .int .i64 num, .int .i64 first, .int .i64 mst, .string (strB pay), .slice Ae ents.length ce] 110) := hJ (BIs.new _ _ _)
 have hp := h.lt
 have q1 : w.cell? ⟨p, 1, none⟩ = some (.slice m.b.Av m.b.vs.length m.b.cv) := h.cell 1
 have hvl : 0 < m.b.vs.length := by have h1 := ok.vs; simpa [BM.st, vws_len] using h1
 have HFT := hJ h.fits
 have hfv := h.fits.vs
 obtain ⟨v, hv, hlv, hcall⟩ := last_m m.b.Av m.b.cv m.b.vs (w.alloc (.cells #[.int .i64 13, .int .i64 num, .int .i64 first, .int .i64 mst, .string (strB pay), .slice Ae ents.length ce] 110)) (h.ext E0.out).lies.vs hvl (by omega)
 have HXR : Hid (Row (w.alloc (.cells #[.int .i64 13, .int .i64 num, .int .i64 first, .int .i64 mst, .string (strB pay), .slice Ae ents.length ce] 110)) v.A (ints v.xs)) := hJ (((h.ext E0.out).lies.vs.2 v hv).2 (v.A, ints v.xs) (by simp [viewE]))
 have hx16 : v.xs.length ≤ 16 := by
  have h1 := (ok_maj ok).2.1
  have h2 : lastV m.b.st.views = (v.n, v.xs) := hlv
  rw [h2] at h1; exact h1
 have HLV : Hid (lastV m.b.st.views = (v.n, v.xs)) := hJ hlv
 have HCALL := hJ hcall
 obtain ⟨nv, Ax, cx, xs⟩ := v
 simp only at HXR hx16 HLV HCALL
 have hfd := field_view1
 obtain ⟨hb, hhb⟩ : ∃ b, hasB xs fr = b := ⟨_, rfl⟩
 obtain ⟨hs, hhs⟩ : ∃ b, hasB xs m.b.self = b := ⟨_, rfl⟩
 obtain ⟨sq, hsq⟩ : ∃ s, seqrF (nv, xs) = s := ⟨_, rfl⟩
 obtain ⟨ob, hob⟩ : ∃ b, openB m.b.st = b := ⟨_, rfl⟩
 obtain ⟨lb, hlb⟩ : ∃ b, leadB m.b.st = b := ⟨_, rfl⟩
 obtain ⟨pb, hpb⟩ : ∃ b, possB m.b.st.views (fr, first, ents) = b := ⟨_, rfl⟩
 have HHB := hJ hhb; have HHS := hJ hhs; have HSQ := hJ hsq; have HOB := hJ hob; have HLB := hJ hlb; have HPB := hJ hpb
 have HR : Hid (handleF m.cs fr ⟨13, num, first, mst, pay, ents⟩ = if (ob && (lb && hb)) = true then ackedF m.cs fr first else m.cs) := hJ (by
  subst hhb hhs hsq hob hlb hpb
  rw [handle_eq m fr 13 num first mst pay ents hlv]
  rfl)
 obtain ⟨c1, hc1⟩ : ∃ x, x = (ob && (lb && hb)) := ⟨_, rfl⟩
 rw [← hc1] at HR
 have HC1 := hJ hc1
 clear hc1; clear h ok hcall hv hlv hfv hvx ho hce hep hhb hhs hsq hob hlb hpb; go_enter Tryz.func73, Tryz.ntmps73
 go_wp2_with fail
 refine HCALL.out.mono ?_
 rintro en w1 ⟨rfl, hx1⟩
 have X1 := hJ hx1
 clear hx1 q1 HCALL; have E1 : Hid (Ext w1 (w1.alloc (.cells #[.int .i64 nv, .slice Ax xs.length cx] 46))) := hJ (Ext.new _ _)
 have T1 : Hid (BIs (w1.alloc (.cells #[.int .i64 nv, .slice Ax xs.length cx] 46)) w1.heap.size #[.int .i64 nv, .slice Ax xs.length cx] 46) := hJ (BIs.new _ _ _)
 go_wp2_with fail
 refine (contains_c Ax cx xs fr _ (HXR.out.ext (X1.out.trans E1.out)) (by omega) hb HHB.out).mono ?_
 rintro en w1' ⟨rfl, rfl⟩
 go_wp2_with fail
 refine (sequencer_b nv Ax cx xs _ (HXR.out.ext (X1.out.trans E1.out)) (by omega) sq HSQ.out).mono ?_
 rintro en w3 ⟨rfl, hx3⟩
 have X03 : Hid (Ext (w.alloc (.cells #[.int .i64 13, .int .i64 num, .int .i64 first, .int .i64 mst, .string (strB pay), .slice Ae ents.length ce] 110)) w3) := hJ ((X1.out.trans E1.out).trans hx3)
 have HZ : Hid (Ext w w3) := hJ (E0.out.trans X03.out)
 have C3 := hJ (H.out.ext HZ.out)
 have M3 := hJ (M0.out.ext X03.out)
 have T3 := hJ (T1.out.ext hx3)
 have R3 : Hid (Row w3 Ax (ints xs)) := hJ (HXR.out.ext X03.out)
 clear hx3 X03 E1 T1 X1 E0 M0 HXR; generalize w1.heap.size = r_t at *
 go_upto_region 4 with fail
 obtain ⟨W0, rfl⟩ : ∃ x, x = w3 := ⟨_, rfl⟩
 obtain ⟨q0, q1, q2, q3, q4, q5, q6, q7, q8⟩ := nineC C3.out
 obtain ⟨b0, b1, b2, b3, b4, b5⟩ := six M3.out
 obtain ⟨t0, t1⟩ := twoB T3.out
 go_upto_region 8 with fail
 clear q0 q1 q2 q3 q4 q5 q6 q7 q8 b0 b1 b2 b3 b4 b5 t0 t1; go_cut [74] (fun s wx => s = .bool c1 ∧ Hid (CS wx B col p m) ∧ Hid (BIs wx w.heap.size #[.int .i64 13, .int .i64 num, .int .i64 first, .int .i64 mst, .string (strB pay), .slice Ae ents.length ce] 110) ∧ Hid (BIs wx r_t #[.int .i64 nv, .slice Ax xs.length cx] 46) ∧ Hid (Row wx Ax (ints xs)) ∧ Hid (Ext w wx))
 case first =>
  obtain ⟨q0, q1, q2, q3, q4, q5, q6, q7, q8⟩ := nineC C3.out
  obtain ⟨b0, b1, b2, b3, b4, b5⟩ := six M3.out
  obtain ⟨t0, t1⟩ := twoB T3.out
  go_wp2_with fail
  refine (open_any m.b W0 C3.out.lies.reads hvl HFT.out).mono ?_
  rintro en w4 ⟨rfl, hx4⟩
  rw [HOB.out]
  replace C3 := hJ (C3.out.ext hx4); replace M3 := hJ (M3.out.ext hx4); replace T3 := hJ (T3.out.ext hx4); replace R3 := hJ (R3.out.ext hx4); replace HZ := hJ (HZ.out.trans hx4); clear hx4
  clear q0 q1 q2 q3 q4 q5 q6 q7 q8 b0 b1 b2 b3 b4 b5 t0 t1; obtain ⟨q0, q1, q2, q3, q4, q5, q6, q7, q8⟩ := nineC C3.out
  obtain ⟨b0, b1, b2, b3, b4, b5⟩ := six M3.out
  obtain ⟨t0, t1⟩ := twoB T3.out
  cases ob with
  | false =>
   go_wp2; go_meet
   case rel => exact ⟨by rw [HC1.out]; rfl, C3, M3, T3, R3, HZ⟩
  | true =>
   go_wp2_with fail
   refine (leads_any m.b w4 C3.out.lies.reads hvl HFT.out).mono ?_
   rintro en w5 ⟨rfl, hx4⟩
   rw [HLB.out]
   replace C3 := hJ (C3.out.ext hx4); replace M3 := hJ (M3.out.ext hx4); replace T3 := hJ (T3.out.ext hx4); replace R3 := hJ (R3.out.ext hx4); replace HZ := hJ (HZ.out.trans hx4); clear hx4
   clear q0 q1 q2 q3 q4 q5 q6 q7 q8 b0 b1 b2 b3 b4 b5 t0 t1; obtain ⟨q0, q1, q2, q3, q4, q5, q6, q7, q8⟩ := nineC C3.out
   obtain ⟨b0, b1, b2, b3, b4, b5⟩ := six M3.out
   obtain ⟨t0, t1⟩ := twoB T3.out
   cases lb with
   | false =>
    go_wp2; go_meet
    case rel => exact ⟨by rw [HC1.out]; rfl, C3, M3, T3, R3, HZ⟩
   | true =>
    go_wp2; go_meet
    case rel => exact ⟨by rw [HC1.out]; rfl, C3, M3, T3, R3, HZ⟩
 case rest =>
  obtain ⟨rfl, HC0, HM0, HT0, HR0, HZ0⟩ := hcut
  clear C3 M3 T3 R3 HZ; obtain ⟨C3, M3, T3, R3, HZ⟩ : Hid (CS wc B col p m) ∧ Hid (BIs wc w.heap.size #[.int .i64 13, .int .i64 num, .int .i64 first, .int .i64 mst, .string (strB pay), .slice Ae ents.length ce] 110) ∧ Hid (BIs wc r_t #[.int .i64 nv, .slice Ax xs.length cx] 46) ∧ Hid (Row wc Ax (ints xs)) ∧ Hid (Ext w wc) := ⟨HC0, HM0, HT0, HR0, HZ0⟩
  clear HC0 HM0 HT0 HR0 HZ0; obtain ⟨W1, rfl⟩ : ∃ x, x = wc := ⟨wc, rfl⟩
  cases c1 with
  | false =>
   rw [if_neg (by simp)] at HR
   obtain ⟨q0, q1, q2, q3, q4, q5, q6, q7, q8⟩ := nineC C3.out
   obtain ⟨b0, b1, b2, b3, b4, b5⟩ := six M3.out
   obtain ⟨t0, t1⟩ := twoB T3.out
   go_upto_region 15 with fail
   clear q0 q1 q2 q3 q4 q5 q6 q7 q8 b0 b1 b2 b3 b4 b5 t0 t1; refine E_begin 33 (fun w' => w'.cell? ⟨p, 0, none⟩ = some (.int .i64 m.b.self) ∧ w'.cell? ⟨p, 1, none⟩ = some (.slice m.b.Av m.b.vs.length m.b.cv) ∧ w'.cell? ⟨p, 2, none⟩ = some (.int .i64 m.b.base) ∧ w'.cell? ⟨p, 3, none⟩ = some (.slice m.b.Al m.b.log.length m.b.cl) ∧ w'.cell? ⟨p, 4, none⟩ = some (.int .i64 m.b.stable) ∧ w'.cell? ⟨p, 5, none⟩ = some (.int .i64 m.b.sent) ∧ w'.cell? ⟨p, 6, none⟩ = some (.slice m.b.Ap m.b.pend.length m.b.cp) ∧ w'.cell? ⟨p, 7, none⟩ = some (.slice m.b.Am m.b.marks.length m.b.cm) ∧ w'.cell? ⟨p, 8, none⟩ = some (.slice m.b.Af m.b.fls.length m.b.cf) ∧ w'.cell? ⟨w.heap.size, 0, none⟩ = some (.int .i64 13) ∧ w'.cell? ⟨r_t, 1, none⟩ = some (.slice Ax xs.length cx)) (by kernel_rfl) ⟨(C3.out.ext Ext.drew1).cell 0, (C3.out.ext Ext.drew1).cell 1, (C3.out.ext Ext.drew1).cell 2, (C3.out.ext Ext.drew1).cell 3, (C3.out.ext Ext.drew1).cell 4, (C3.out.ext Ext.drew1).cell 5, (C3.out.ext Ext.drew1).cell 6, (C3.out.ext Ext.drew1).cell 7, (C3.out.ext Ext.drew1).cell 8, (M3.out.ext Ext.drew1).cell 0, (T3.out.ext Ext.drew1).cell 1⟩ (fun hHeld => ?_)
   have hx4 : Ext W1 W1.drew := Ext.drew1
   replace C3 := hJ (C3.out.ext hx4); replace M3 := hJ (M3.out.ext hx4); replace T3 := hJ (T3.out.ext hx4); replace R3 := hJ (R3.out.ext hx4); replace HZ := hJ (HZ.out.trans hx4); clear hx4
   generalize W1.drew = u1 at *
   refine E_t 0 138 ?_; refine E_t 1 139 ?_; refine E_t 2 140 ?_; refine E_t 3 141 ?_; refine E_s 4 142 ?_; refine E_s 5 143 ?_; refine E_s 6 144 ?_; refine E_s 7 145 ?_; refine E_s 8 146 ?_; refine E_s 9 147 ?_; refine E_t 10 148 ?_; refine E_t 11 149 ?_; refine E_s 12 150 ?_; refine E_s 13 151 ?_; refine E_s 14 152 ?_; refine E_s 15 153 ?_; refine E_s 16 154 ?_; refine E_s 17 155 ?_; refine E_t 18 156 ?_; refine E_t 19 157 ?_; refine E_s 20 158 ?_; refine E_t 21 159 ?_; refine E_t 22 160 ?_; refine E_s 23 161 ?_; refine E_s 24 162 ?_; refine E_s 25 163 ?_; refine E_s 26 164 ?_; refine E_s 27 165 ?_; refine E_s 28 166 ?_; refine E_s 29 167 ?_; refine E_s 30 168 ?_; refine E_t 31 169 ?_; refine E_t 32 137 ?_; refine E_end (by kernel_rfl) (by rfl) ?_
   go_wp2; go_end0; rw [HR.out]
   exact ⟨m, col, rfl, C3.out, rfl, Stp.ext' H.out.Bsz HZ.out⟩
  | true =>
   rw [if_pos rfl] at HR
   obtain ⟨q0, q1, q2, q3, q4, q5, q6, q7, q8⟩ := nineC C3.out
   obtain ⟨b0, b1, b2, b3, b4, b5⟩ := six M3.out
   obtain ⟨t0, t1⟩ := twoB T3.out
   go_wp2_with fail
   refine (acked_any m B col p fr first W1 C3.out OK.out hdl hmn).mono ?_
   rintro en w6 ⟨m6, col6, rfl, hc6, hm6, hs6⟩
   go_wp2; go_end0; rw [HR.out]
   exact ⟨m6, col6, rfl, hc6, hm6, (Stp.ext' H.out.Bsz HZ.out).trans hs6⟩
end Go.Proofs.YtponbabbabnaeaaGreat
