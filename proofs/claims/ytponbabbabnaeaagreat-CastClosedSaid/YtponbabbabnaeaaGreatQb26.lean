/- Part 26 of the proof: contracts of functions that the statement reaches. Conditions: as each theorem says. -/
import Derived.Test.YtponbabbabnaeaaGreatQb01
import Derived.Test.YtponbabbabnaeaaGreatQb20
import Derived.Test.YtponbabbabnaeaaGreatQb22
import Derived.Test.YtponbabbabnaeaaGreatQb23
import Derived.Test.YtponbabbabnaeaaGreatQb25
import Derived.Test.YtponbabbabnaeaaGreatQb19
namespace Go.Proofs.YtponbabbabnaeaaGreat
open Go.RowKit
set_option maxRecDepth 100000 in
set_option maxHeartbeats 1000000 in
theorem submitted_any (m : CM) (B : Nat) (col : Nat → Nat) (p : Nat) (fr kind num first mst : Int) (pay : List UInt8) (ents : List Ent) (Ae : Option Addr) (ce : Nat) (w : World) (h : CS w B col p m) (hll : m.b.log.length ≤ 2000) (hpp : pay.length ≤ 1000000) :
  Calls Tryz.prog 142 #[.pointer (some ⟨p, 0, none⟩), .int .i64 fr, msgV ⟨kind, num, first, mst, pay, ents⟩ Ae ce] w (Does B col p w (submittedF m.cs fr ⟨kind, num, first, mst, pay, ents⟩)) := by
 obtain ⟨⟨self, base, stable, sent, Av, cv, vs, Al, cl, log, Ap, cp, pend, Am, cm, marks, Af, cf, fls⟩, Ak, ck, pk, Ad, cd, dl⟩ := m
 have hpl := h.lt
 have H := hJ h
 have hfl := h.fits.log
 simp only at hll hfl
 have E0 : Hid (Ext w (w.alloc (.cells #[.int .i64 kind, .int .i64 num, .int .i64 first, .int .i64 mst, .string (strB pay), .slice Ae ents.length ce] 110))) := hJ (Ext.new _ _)
 have C0 : Hid (CS (w.alloc (.cells #[.int .i64 kind, .int .i64 num, .int .i64 first, .int .i64 mst, .string (strB pay), .slice Ae ents.length ce] 110)) B col p ⟨⟨self, base, stable, sent, Av, cv, vs, Al, cl, log, Ap, cp, pend, Am, cm, marks, Af, cf, fls⟩, Ak, ck, pk, Ad, cd, dl⟩) := hJ (h.ext E0.out)
 have M0 : Hid (BIs (w.alloc (.cells #[.int .i64 kind, .int .i64 num, .int .i64 first, .int .i64 mst, .string (strB pay), .slice Ae ents.length ce] 110)) w.heap.size #[.int .i64 kind, .int .i64 num, .int .i64 first, .int .i64 mst, .string (strB pay), .slice Ae ents.length ce] 110) := hJ (BIs.new _ _ _)
 clear h; obtain ⟨on, hon⟩ : ∃ k, k = ownN log fr := ⟨_, rfl⟩
 have HON := hJ hon
 have honl : on ≤ log.length := by rw [hon]; unfold ownN; exact List.countP_le_length
 clear hon; have hwa : IntKind.i64.wrap ((on : Int) + 1) = (on : Int) + 1 := IntWalk.i64_in _ (by omega)
 go_enter Tryz.func142, Tryz.ntmps142
 go_upto_region 1 with fail
 generalize (w.alloc (.cells #[.int .i64 kind, .int .i64 num, .int .i64 first, .int .i64 mst, .string (strB pay), .slice Ae ents.length ce] 110)) = u0 at *
 by_cases hc : first = (on : Int) + 1 ∧ log.length < 2000
 rotate_left
 ·have HR : Hid (submittedF (⟨⟨self, base, stable, sent, Av, cv, vs, Al, cl, log, Ap, cp, pend, Am, cm, marks, Af, cf, fls⟩, Ak, ck, pk, Ad, cd, dl⟩ : CM).cs fr ⟨kind, num, first, mst, pay, ents⟩ = (⟨⟨self, base, stable, sent, Av, cv, vs, Al, cl, log, Ap, cp, pend, Am, cm, marks, Af, cf, fls⟩, Ak, ck, pk, Ad, cd, dl⟩ : CM).cs) := hJ (by unfold submittedF; refine if_neg ?_; intro h; exact hc ⟨by rw [HON.out]; exact h.1, h.2⟩)
  by_cases h1 : first = (on : Int) + 1
  ·have h2 : decide ((log.length : Int) < 2000) = false := by simp only [decide_eq_false_iff_not]; have : ¬ log.length < 2000 := fun e => hc ⟨h1, e⟩; omega
   have h1' : (first == (on : Int) + 1) = true := by simpa using h1
   clear hc h1; refine E_begin 20 (fun w' => w'.cell? ⟨p, 3, none⟩ = some (.slice Al log.length cl) ∧ w'.cell? ⟨w.heap.size, 2, none⟩ = some (.int .i64 first)) (by kernel_rfl) ⟨C0.out.cell 3, M0.out.cell 2⟩ (fun hHeld => ?_)
   have XD : Hid (Ext u0 u0.drew) := hJ Ext.drew1
   replace C0 := hJ (C0.out.ext XD.out); replace M0 := hJ (M0.out.ext XD.out); replace E0 := hJ (E0.out.trans XD.out); clear XD
   generalize u0.drew = u1 at *
   refine E_t 0 6 ?_; refine E_t 1 7 ?_; refine E_t 2 8 ?_; refine E_t 3 9 ?_; refine E_t 4 10 ?_; refine E_t 5 11 ?_; refine E_t 6 12 ?_; refine E_t 7 13 ?_; refine E_ready [8] (by kernel_rfl) (by simp) ?_
   refine (AllE.cons (o := ⟨some 14, _, _, _, _, _⟩) rfl (fun K hK => ?_) AllE.nil)
   go_simp; go_at_call 91; refine (own_any Al cl log fr _ C0.out.lies.log.row (by omega)).mono ?_
   rintro en w2 ⟨rfl, hx2⟩
   rw [← HON.out]
   replace C0 := hJ (C0.out.ext hx2); replace M0 := hJ (M0.out.ext hx2); replace E0 := hJ (E0.out.trans hx2); clear hx2
   clear hHeld; refine hK.out _ _ ⟨C0.out.cell 3, M0.out.cell 2⟩ (fun hHeld => ?_)
   clear hK K; try simp only [Act.put, aP1, aP2, aP3]
   refine E_t 9 15 ?_; refine E_t 10 16 ?_; refine E_t 11 17 ?_; refine E_t 12 18 ?_; refine E_t 13 19 ?_; refine E_t 14 20 ?_; refine E_t 15 21 ?_; refine E_t 16 22 ?_; refine E_t 17 23 ?_; refine E_t 18 24 ?_; refine E_t 19 25 ?_; refine E_end (by kernel_rfl) (by rfl) ?_
   go_wp2; go_end0; rw [HR.out]
   exact ⟨_, col, rfl, C0.out, rfl, Stp.ext' H.out.Bsz E0.out⟩
  ·have h1' : (first == (on : Int) + 1) = false := by simpa using h1
   clear hc h1; refine E_begin 20 (fun w' => w'.cell? ⟨p, 3, none⟩ = some (.slice Al log.length cl) ∧ w'.cell? ⟨w.heap.size, 2, none⟩ = some (.int .i64 first)) (by kernel_rfl) ⟨C0.out.cell 3, M0.out.cell 2⟩ (fun hHeld => ?_)
   have XD : Hid (Ext u0 u0.drew) := hJ Ext.drew1
   replace C0 := hJ (C0.out.ext XD.out); replace M0 := hJ (M0.out.ext XD.out); replace E0 := hJ (E0.out.trans XD.out); clear XD
   generalize u0.drew = u1 at *
   refine E_t 0 6 ?_; refine E_t 1 7 ?_; refine E_t 2 8 ?_; refine E_t 3 9 ?_; refine E_t 4 10 ?_; refine E_t 5 11 ?_; refine E_t 6 12 ?_; refine E_t 7 13 ?_; refine E_ready [8] (by kernel_rfl) (by simp) ?_
   refine (AllE.cons (o := ⟨some 14, _, _, _, _, _⟩) rfl (fun K hK => ?_) AllE.nil)
   go_simp; go_at_call 91; refine (own_any Al cl log fr _ C0.out.lies.log.row (by omega)).mono ?_
   rintro en w2 ⟨rfl, hx2⟩
   rw [← HON.out]
   replace C0 := hJ (C0.out.ext hx2); replace M0 := hJ (M0.out.ext hx2); replace E0 := hJ (E0.out.trans hx2); clear hx2
   clear hHeld; refine hK.out _ _ ⟨C0.out.cell 3, M0.out.cell 2⟩ (fun hHeld => ?_)
   clear hK K; try simp only [Act.put, aP1, aP2, aP3]
   refine E_t 9 15 ?_; refine E_t 10 16 ?_; refine E_t 11 17 ?_; refine E_s 12 18 ?_; refine E_s 13 19 ?_; refine E_s 14 20 ?_; refine E_s 15 21 ?_; refine E_s 16 22 ?_; refine E_s 17 23 ?_; refine E_s 18 24 ?_; refine E_t 19 25 ?_; refine E_end (by kernel_rfl) (by rfl) ?_
   go_wp2; go_end0; rw [HR.out]
   exact ⟨_, col, rfl, C0.out, rfl, Stp.ext' H.out.Bsz E0.out⟩
 obtain ⟨h1, h2⟩ := hc
 have HR : Hid (submittedF (⟨⟨self, base, stable, sent, Av, cv, vs, Al, cl, log, Ap, cp, pend, Am, cm, marks, Af, cf, fls⟩, Ak, ck, pk, Ad, cd, dl⟩ : CM).cs fr ⟨kind, num, first, mst, pay, ents⟩ = { (⟨⟨self, base, stable, sent, Av, cv, vs, Al, cl, log, Ap, cp, pend, Am, cm, marks, Af, cf, fls⟩, Ak, ck, pk, Ad, cd, dl⟩ : CM).cs with s := { (⟨⟨self, base, stable, sent, Av, cv, vs, Al, cl, log, Ap, cp, pend, Am, cm, marks, Af, cf, fls⟩, Ak, ck, pk, Ad, cd, dl⟩ : CM).cs.s with log := log ++ [⟨base, fr, first, pay⟩] } }) := hJ (by unfold submittedF; refine if_pos ⟨by rw [h1, HON.out]; rfl, h2⟩)
 have h1' : (first == (on : Int) + 1) = true := by simpa using h1
 have h2' : decide ((log.length : Int) < 2000) = true := by simp; omega
 have HF1 := hJ h1
 clear h1; refine E_begin 20 (fun w' => w'.cell? ⟨p, 3, none⟩ = some (.slice Al log.length cl) ∧ w'.cell? ⟨w.heap.size, 2, none⟩ = some (.int .i64 first)) (by kernel_rfl) ⟨C0.out.cell 3, M0.out.cell 2⟩ (fun hHeld => ?_)
 have XD : Hid (Ext u0 u0.drew) := hJ Ext.drew1
 replace C0 := hJ (C0.out.ext XD.out); replace M0 := hJ (M0.out.ext XD.out); replace E0 := hJ (E0.out.trans XD.out); clear XD
 generalize u0.drew = u1 at *
 refine E_t 0 6 ?_; refine E_t 1 7 ?_; refine E_t 2 8 ?_; refine E_t 3 9 ?_; refine E_t 4 10 ?_; refine E_t 5 11 ?_; refine E_t 6 12 ?_; refine E_t 7 13 ?_; refine E_ready [8] (by kernel_rfl) (by simp) ?_
 refine (AllE.cons (o := ⟨some 14, _, _, _, _, _⟩) rfl (fun K hK => ?_) AllE.nil)
 go_simp; go_at_call 91; refine (own_any Al cl log fr _ C0.out.lies.log.row (by omega)).mono ?_
 rintro en w2 ⟨rfl, hx2⟩
 rw [← HON.out]
 replace C0 := hJ (C0.out.ext hx2); replace M0 := hJ (M0.out.ext hx2); replace E0 := hJ (E0.out.trans hx2); clear hx2
 clear hHeld; refine hK.out _ _ ⟨C0.out.cell 3, M0.out.cell 2⟩ (fun hHeld => ?_)
 clear hK K; try simp only [Act.put, aP1, aP2, aP3]
 refine E_t 9 15 ?_; refine E_t 10 16 ?_; refine E_t 11 17 ?_; refine E_t 12 18 ?_; refine E_t 13 19 ?_; refine E_t 14 20 ?_; refine E_t 15 21 ?_; refine E_t 16 22 ?_; refine E_t 17 23 ?_; refine E_t 18 24 ?_; refine E_t 19 25 ?_; refine E_end (by kernel_rfl) (by rfl) ?_
 go_upto_region 2 with fail
 have hp1 : p < _ := C0.out.lt
 have HLW : Hid (∀ k, (Value.slice Al log.length cl).ownBlock = some k → k < w.heap.size) := hJ (fun k hk => (H.out.lies.log.lt k hk).2)
 refine E_begin 19 (fun w' => w'.cell? ⟨p, 2, none⟩ = some (.int .i64 base) ∧ w'.cell? ⟨p, 3, none⟩ = some (.slice Al log.length cl) ∧ w'.cell? ⟨w.heap.size, 2, none⟩ = some (.int .i64 first) ∧ w'.cell? ⟨w.heap.size, 4, none⟩ = some (.string (strB pay))) (by kernel_rfl) ⟨(C0.out.ext Ext.drew1).cell 2, (C0.out.ext Ext.drew1).cell 3, (M0.out.ext Ext.drew1).cell 2, (M0.out.ext Ext.drew1).cell 4⟩ (fun hHeld => ?_)
 refine E_t 0 26 ?_; refine E_t 1 27 ?_; refine E_t 2 28 ?_; refine E_t 3 29 ?_; refine E_t 4 30 ?_; refine E_t 5 31 ?_; refine E_t 6 32 ?_; refine E_t 7 33 ?_; refine E_t 8 34 ?_; refine E_t 9 35 ?_; refine E_t 10 36 ?_; refine E_t 11 37 ?_; refine E_t 12 38 ?_; refine E_t 13 39 ?_; refine E_t 14 40 ?_; refine E_t 15 41 ?_; refine E_t 16 42 ?_; refine E_ready [17] (by kernel_rfl) (by simp) ?_
 refine AllE.cons (o := ⟨some 43, _, _, _, _, _⟩) rfl (fun K hK => ?_) AllE.nil
 go_simp; have EA : Hid (Ext w2 (w2.alloc (.cells #[.int .i64 base, .int .i64 fr, .int .i64 first, .string (strB pay)] 66)).drew) := hJ ((Ext.new _ _).trans Ext.drew1)
 have HRE : Hid (Row (w2.alloc (.cells #[.int .i64 base, .int .i64 fr, .int .i64 first, .string (strB pay)] 66)).drew (some ⟨w2.heap.size, 0, none⟩) (entE.cells [⟨base, fr, first, pay⟩])) := hJ ((ent1_row ⟨base, fr, first, pay⟩ w2).ext Ext.drew1)
 have C1 := hJ (C0.out.ext EA.out); have M1 := hJ (M0.out.ext EA.out); have E1 := hJ (E0.out.trans EA.out)
 generalize (w2.alloc (.cells #[.int .i64 base, .int .i64 fr, .int .i64 first, .string (strB pay)] 66)).drew = u3 at *
 generalize w2.heap.size = r_e at *
 clear hHeld; refine hK.out _ _ ⟨C1.out.cell 2, C1.out.cell 3, M1.out.cell 2, M1.out.cell 4⟩ (fun hHeld => ?_)
 clear hK K; try simp only [Act.put, aP1, aP2, aP3]
 refine E_ready [18] (by kernel_rfl) (by simp) ?_
 refine AllE.cons (o := ⟨some 44, _, _, _, _, _⟩) rfl (fun K hK => ?_) AllE.nil
 refine step_push_e entE rfl (.tmp 31) (.tmp 43) rfl u3 B _ log (by rfl) _ 1 1 [⟨base, fr, first, pay⟩] (by rfl) rfl HRE.out (by decide) ⟨C1.out.lies.log, fun _ _ => ⟨trivial, fun r hr => by simp [entE] at hr⟩⟩ ent_good (by omega) C1.out.Bsz ?_
 intro v3 w3 ho3 hg3 hs3
 obtain ⟨NL, hNL⟩ : ∃ l, l = log ++ [⟨base, fr, first, pay⟩] := ⟨_, rfl⟩
 have HNL := hJ hNL
 rw [← hNL] at ho3
 clear hNL; obtain ⟨A3, c3, rfl, h31, h32, _⟩ := ho3.slice
 have HO3 := hJ ho3.1
 have S3 : Hid (Stp B [2] col u3 (paint col u3.heap.size 2) w3) := hJ ((Stp.grew hg3 C1.out.Bsz (fun q hq => (C1.out.lies.log.lt q hq).1) C1.out.lies.lc (by simp)).recol (fun k hk => paint_old hk))
 have HCV : Hid (ColV (paint col u3.heap.size 2) 2 (.slice A3 NL.length c3)) := hJ (colV_stems hs3 C1.out.lies.lc (Nat.le_refl _) (fun q hq => (C1.out.lies.log.lt q hq).2))
 have BX3 : Hid (BIs w3 p (⟨⟨self, base, stable, sent, Av, cv, vs, Al, cl, log, Ap, cp, pend, Am, cm, marks, Af, cf, fls⟩, Ak, ck, pk, Ad, cd, dl⟩ : CM).cells 86) := hJ (S3.out.bis C1.out.box (by rw [C1.out.pc]; simp))
 have M3 : Hid (BIs w3 w.heap.size #[.int .i64 kind, .int .i64 num, .int .i64 first, .int .i64 mst, .string (strB pay), .slice Ae ents.length ce] 110) := hJ (M1.out.same (hg3.block _ M1.out.lt (fun e => by have h1 := (C1.out.lies.log.lt _ e.symm); have h2 := HLW.out _ e.symm; omega)))
 clear ho3 hg3 hs3; clear hHeld; refine hK.out _ _ ⟨BX3.out.cell 2, BX3.out.cell 3, M3.out.cell 2, M3.out.cell 4⟩ (fun hHeld => ?_)
 clear hK K; try simp only [Act.put, aP1, aP2, aP3]
 refine E_tail (by rfl) (by kernel_rfl) ?_
 have u3' : w3.cell? ⟨p, 3, none⟩ = some (.slice Al log.length cl) := BX3.out.cell 3
 have f3 := BX3.out.free 3
 go_wp2; go_end0; have hpc3 : (paint col u3.heap.size 2) p = 1 := (S3.out.hue p C1.out.lt).trans C1.out.pc
 have S4 : Stp B [1, 2] (paint col u3.heap.size 2) w3 (paint col u3.heap.size 2) (w3.setCell ⟨p, 3, none⟩ (.slice A3 NL.length c3)) := Stp.wrote (Wrote.set _ _ _ _) H.out.bp (Nat.le_trans C1.out.Bsz S3.out.size) (by rw [hpc3]; simp)
 have S34 := (S3.out.mono (cs' := [1, 2]) (by simp)).trans S4
 refine ⟨⟨⟨self, base, stable, sent, Av, cv, vs, A3, c3, NL, Ap, cp, pend, Am, cm, marks, Af, cf, fls⟩, Ak, ck, pk, Ad, cd, dl⟩, paint col u3.heap.size 2, rfl, ?_, ?_, ?_⟩
 ·have h := C1.out
  have hf := h.fits
  refine ⟨BX3.out.set 3 _, hpc3, h.bp, h.lies.relog S34 (by simp) (by simp) (by simp) (by simp) (HO3.out.keep fun q hq hlt => (Wrote.set p 3 w3 _).blk hlt (fun e => by subst e; have := HCV.out q hq; rw [hpc3] at this; cases this)) HCV.out, S34.own h.pk h.kc (by simp), S34.colV h.pk h.kc, h.kiK S34 (by simp), S34.own h.dl h.dc (by simp), S34.colV h.dl h.dc, ?_, h.cp⟩
  refine ⟨hf.vs, hf.vx, ?_, ?_, hf.pend, hf.pp, hf.marks, hf.fls, hf.fl, h31, h32⟩
  ·show NL.length ≤ 100000
   rw [HNL.out, List.length_append]; simp; omega
  ·intro e he
   have he' : e ∈ NL := he
   rw [HNL.out] at he'
   rcases List.mem_append.1 he' with he' | he'
   ·exact hf.lp e he'
   ·simp only [List.mem_cons, List.not_mem_nil, or_false] at he'
    subst he'; exact hpp
 ·rw [HR.out, ← HNL.out]; rfl
 ·exact ((Stp.ext (cs := [1, 2]) H.out.Bsz E1.out (fun _ _ => rfl)).trans S34).mono (cs' := [1, 2, 3, 4, 5, 7]) (by simp)
end Go.Proofs.YtponbabbabnaeaaGreat
namespace Go.Proofs.YtponbabbabnaeaaGreat
open Go.RowKit
theorem nineC {w : World} {B : Nat} {col : Nat → Nat} {p : Nat} {m : CM} (h : CS w B col p m) : w.cell? ⟨p, 0, none⟩ = some (.int .i64 m.b.self) ∧ w.cell? ⟨p, 1, none⟩ = some (.slice m.b.Av m.b.vs.length m.b.cv) ∧ w.cell? ⟨p, 2, none⟩ = some (.int .i64 m.b.base) ∧ w.cell? ⟨p, 3, none⟩ = some (.slice m.b.Al m.b.log.length m.b.cl) ∧ w.cell? ⟨p, 4, none⟩ = some (.int .i64 m.b.stable) ∧ w.cell? ⟨p, 5, none⟩ = some (.int .i64 m.b.sent) ∧ w.cell? ⟨p, 6, none⟩ = some (.slice m.b.Ap m.b.pend.length m.b.cp) ∧ w.cell? ⟨p, 7, none⟩ = some (.slice m.b.Am m.b.marks.length m.b.cm) ∧ w.cell? ⟨p, 8, none⟩ = some (.slice m.b.Af m.b.fls.length m.b.cf) :=
 ⟨h.cell 0, h.cell 1, h.cell 2, h.cell 3, h.cell 4, h.cell 5, h.cell 6, h.cell 7, h.cell 8⟩
theorem twoB {w : World} {p : Nat} {a b : Value} {t : TypeId} (h : BIs w p #[a, b] t) : w.cell? ⟨p, 0, none⟩ = some a ∧ w.cell? ⟨p, 1, none⟩ = some b := ⟨h.cell 0, h.cell 1⟩
theorem handle_eq (m : CM) (fr kind num first mst : Int) (pay : List UInt8) (ents : List Ent) {nv : Int} {xs : List Int} (h : lastV (vws m.b.vs) = (nv, xs)) :
  handleF m.cs fr ⟨kind, num, first, mst, pay, ents⟩ = if (kind == 11 && (openB m.b.st && (leadB m.b.st && hasB xs fr))) = true then submittedF m.cs fr ⟨kind, num, first, mst, pay, ents⟩ else if (kind == 12 && (openB m.b.st && (!leadB m.b.st && fr == seqrF (nv, xs)))) = true then appendedF m.cs ⟨kind, num, first, mst, pay, ents⟩ else if (kind == 13 && (openB m.b.st && (leadB m.b.st && hasB xs fr))) = true then ackedF m.cs fr first else if (kind == 14 && (!openB m.b.st && leadB m.b.st)) = true then (if possB m.b.st.views (fr, first, ents) = true then { m.cs with s := installF { m.cs.s with fls := putF m.cs.s.fls (fr, first, ents) } } else m.cs) else if (kind == 15 && (!openB m.b.st && (!leadB m.b.st && (fr == seqrF (nv, xs) && hasB xs m.b.self)))) = true then installedF m.cs ⟨kind, num, first, mst, pay, ents⟩ else m.cs := by
 have e : lastV m.cs.s.views = (nv, xs) := h
 have e1 : openB m.cs.s = openB m.b.st := rfl
 have e2 : leadB m.cs.s = leadB m.b.st := rfl
 have e3 : m.cs.s.self = m.b.self := rfl
 unfold handleF
 rw [e, e1, e2, e3]
 simp only [Bool.and_eq_true, beq_iff_eq, Bool.not_eq_true']
 rfl
theorem poss_l (Av : Option Addr) (cv : Nat) (vs : List VwM) (fm fb : Int) (A : Option Addr) (c : Nat) (l : List Ent) (w : World) (h : viewE.Box w Av vs) (hf : Row w A (entE.cells l)) (hl : l.length ≤ 1000000000) (hn : vs.length ≤ 100000) (hx : ∀ v ∈ vs, v.xs.length ≤ 1000000) (hlp : ∀ e ∈ l, e.p.length ≤ 6000) (pb : Bool) (hp : possB (vws vs) (fm, fb, l) = pb) :
  Calls Tryz.prog 145 #[.slice Av vs.length cv, .agg #[.int .i64 fm, .int .i64 fb, .slice A l.length c]] w fun e w' => e = .returned (.bool pb) ∧ Ext w w' := by
 subst hp
 exact possible_any Av cv vs ⟨fm, fb, A, c, l⟩ w h hf (by omega) hx hl (fun e he => Nat.le_trans (hlp e he) (by omega))
theorem put_keep {m m6 : CM} {f : Fls} (ok : OkS m.b.st) (h : m6.cs = { m.cs with s := { m.cs.s with fls := putF m.cs.s.fls f } }) (hn : m.b.fls.length ≤ 49999) (hx : ∀ v ∈ m.b.vs, v.xs.length ≤ 1000) :
  0 < m6.b.vs.length ∧ (0 ≤ m6.b.stable ∧ m6.b.stable ≤ m6.b.log.length) ∧ m6.b.fls.length ≤ 50000 ∧ ∀ v ∈ m6.b.vs, v.xs.length ≤ 1000 := by
 have hs : m6.b.st = { m.b.st with fls := putF (m.b.fls.map FlM.v) f } := congrArg Cs.s h
 have h1 : vws m6.b.vs = vws m.b.vs := congrArg St.views hs
 have h2 : m6.b.stable = m.b.stable := congrArg St.stable hs
 have h3 : m6.b.log = m.b.log := congrArg St.log hs
 have h4 : m6.b.fls.map FlM.v = putF (m.b.fls.map FlM.v) f := congrArg St.fls hs
 refine ⟨?_, ?_, ?_, fun v hv => ?_⟩
 ·have := congrArg List.length h1
  have hv := ok.vs
  simp only [vws_len, BM.st] at this hv; omega
 ·rw [h2, h3]; exact ⟨ok.st0, ok.st1⟩
 ·have := congrArg List.length h4
  rw [List.length_map] at this
  have h5 : (putF (m.b.fls.map FlM.v) f).length ≤ m.b.fls.length + 1 := by
   unfold putF
   split
   ·rw [List.length_set, List.length_map]; omega
   ·simp only [List.length_append, List.length_take, List.length_cons, List.length_drop, List.length_map]; omega
  omega
 ·have : v.v ∈ vws m.b.vs := by rw [← h1]; exact List.mem_map_of_mem hv
  obtain ⟨u, hu, hv2⟩ := List.mem_map.1 this
  have := hx u hu
  simp only [VwM.v, Prod.mk.injEq] at hv2
  rw [← hv2.2]; exact this
end Go.Proofs.YtponbabbabnaeaaGreat
