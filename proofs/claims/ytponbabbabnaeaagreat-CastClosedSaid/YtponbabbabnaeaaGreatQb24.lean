/- Part 24 of the proof: contracts of functions that the statement reaches. Conditions: as each theorem says. -/
import Derived.Test.YtponbabbabnaeaaGreatQb01
import Derived.Test.YtponbabbabnaeaaGreatQb20
import Derived.Test.YtponbabbabnaeaaGreatQb22
import Derived.Test.YtponbabbabnaeaaGreatQb15
namespace Go.Proofs.YtponbabbabnaeaaGreat
open Go.RowKit
theorem begins_begs (l p : List Ent) : beginsB l p = begsB l p := by
 unfold beginsB begsB sameL
 rfl
theorem begins_len (A A' : Option Addr) (c c' k : Nat) (l p : List Ent) (w : World) (h : Row w A (entE.cells l)) (h' : Row w A' (entE.cells p)) (hn : l.length ≤ 1000000000) (hk : k = p.length) (hc : l.length ≤ c) :
  Calls Tryz.prog 130 #[.slice A l.length c, .slice A' k c'] w fun e w' => e = .returned (.bool (beginsB l p)) ∧ Ext w w' := by subst hk; exact begins_any A A' c c' l p w h h' hn hc
set_option maxRecDepth 100000 in
set_option maxHeartbeats 1000000 in
theorem installed_any (m : CM) (B : Nat) (col : Nat → Nat) (p : Nat) (kind num first mst : Int) (pay : List UInt8) (ents : List Ent) (Ae : Option Addr) (ce : Nat) (w : World) (h : CS w B col p m) (hst : 0 ≤ m.b.stable ∧ m.b.stable ≤ m.b.log.length)
  (ho : entE.Own w B (.slice Ae ents.length ce) ents) (hce : ColV col 2 (.slice Ae ents.length ce)) (hel : ents.length ≤ 2000) (hep : ∀ e ∈ ents, e.p.length ≤ 6000) :
  Calls Tryz.prog 146 #[.pointer (some ⟨p, 0, none⟩), msgV ⟨kind, num, first, mst, pay, ents⟩ Ae ce] w (Does B col p w (installedF m.cs ⟨kind, num, first, mst, pay, ents⟩)) := by
 obtain ⟨⟨self, base, stable, sent, Av, cv, vs, Al, cl, log, Ap, cp, pend, Am, cm, marks, Af, cf, fls⟩, Ak, ck, pk, Ad, cd, dl⟩ := m
 have hpl := h.lt
 have H := hJ h
 have hfl := h.fits.log
 have hcl := h.fits.cl
 simp only at hst hfl hcl
 obtain ⟨sn, rfl⟩ : ∃ k : Nat, stable = (k : Int) := ⟨stable.toNat, by omega⟩
 have HO := hJ ho; have HCE := hJ hce; have HEP := hJ hep
 obtain ⟨Ae', ce', hv, hk1, hk2, _⟩ := ho.slice
 simp only [Value.slice.injEq, true_and] at hv
 obtain ⟨hv1, hv2⟩ := hv
 rw [← hv2] at hk1 hk2
 clear hv1 hv2; have E0 : Hid (Ext w (w.alloc (.cells #[.int .i64 kind, .int .i64 num, .int .i64 first, .int .i64 mst, .string (strB pay), .slice Ae ents.length ce] 110))) := hJ (Ext.new _ _)
 have C0 : Hid (CS (w.alloc (.cells #[.int .i64 kind, .int .i64 num, .int .i64 first, .int .i64 mst, .string (strB pay), .slice Ae ents.length ce] 110)) B col p ⟨⟨self, base, (sn : Int), sent, Av, cv, vs, Al, cl, log, Ap, cp, pend, Am, cm, marks, Af, cf, fls⟩, Ak, ck, pk, Ad, cd, dl⟩) := hJ (h.ext E0.out)
 have M0 : Hid (BIs (w.alloc (.cells #[.int .i64 kind, .int .i64 num, .int .i64 first, .int .i64 mst, .string (strB pay), .slice Ae ents.length ce] 110)) w.heap.size #[.int .i64 kind, .int .i64 num, .int .i64 first, .int .i64 mst, .string (strB pay), .slice Ae ents.length ce] 110) := hJ (BIs.new _ _ _)
 have O0 : Hid (Row (w.alloc (.cells #[.int .i64 kind, .int .i64 num, .int .i64 first, .int .i64 mst, .string (strB pay), .slice Ae ents.length ce] 110)) Ae (entE.cells ents)) := hJ (ho.row.ext E0.out)
 clear h ho hce hep; obtain ⟨v1, hv1⟩ : ∃ x, basedB ents num = x := ⟨_, rfl⟩
 obtain ⟨v2, hv2⟩ : ∃ x, begsB ents (log.take sn) = x := ⟨_, rfl⟩
 obtain ⟨on, hon⟩ : ∃ x, ownN ents self = x := ⟨_, rfl⟩
 have HV1 := hJ hv1; have HV2 : Hid (beginsB ents (log.take sn) = v2) := hJ (by rw [begins_begs]; exact hv2); have HON := hJ hon
 have HR : Hid (installedF (⟨⟨self, base, (sn : Int), sent, Av, cv, vs, Al, cl, log, Ap, cp, pend, Am, cm, marks, Af, cf, fls⟩, Ak, ck, pk, Ad, cd, dl⟩ : CM).cs ⟨kind, num, first, mst, pay, ents⟩ = if 0 < ents.length ∧ v1 = true ∧ v2 = true ∧ (on : Int) ≤ sent then { (⟨⟨self, base, (sn : Int), sent, Av, cv, vs, Al, cl, log, Ap, cp, pend, Am, cm, marks, Af, cf, fls⟩, Ak, ck, pk, Ad, cd, dl⟩ : CM).cs with s := { (⟨⟨self, base, (sn : Int), sent, Av, cv, vs, Al, cl, log, Ap, cp, pend, Am, cm, marks, Af, cf, fls⟩, Ak, ck, pk, Ad, cd, dl⟩ : CM).cs.s with base := num, log := ents } } else (⟨⟨self, base, (sn : Int), sent, Av, cv, vs, Al, cl, log, Ap, cp, pend, Am, cm, marks, Af, cf, fls⟩, Ak, ck, pk, Ad, cd, dl⟩ : CM).cs) := hJ (by unfold installedF; rw [← hv1, ← hv2, ← hon]; rfl)
 clear hv1 hv2 hon; have hsc : sn ≤ cl := by have := hcl.1; omega
 go_enter Tryz.func146, Tryz.ntmps146
 go_upto_region 1 with fail
 generalize (w.alloc (.cells #[.int .i64 kind, .int .i64 num, .int .i64 first, .int .i64 mst, .string (strB pay), .slice Ae ents.length ce] 110)) = u0 at *
 by_cases h0 : 0 < ents.length
 rotate_left
 ·have h0' : ents = [] := List.eq_nil_of_length_eq_zero (by omega)
  subst h0'
  clear h0; refine E_begin 43 (fun w' => w'.cell? ⟨p, 0, none⟩ = some (.int .i64 self) ∧ w'.cell? ⟨p, 3, none⟩ = some (.slice Al log.length cl) ∧ w'.cell? ⟨p, 4, none⟩ = some (.int .i64 (sn : Int)) ∧ w'.cell? ⟨p, 5, none⟩ = some (.int .i64 sent) ∧ w'.cell? ⟨w.heap.size, 1, none⟩ = some (.int .i64 num) ∧ w'.cell? ⟨w.heap.size, 5, none⟩ = some (.slice Ae 0 ce)) (by kernel_rfl) ⟨(C0.out.ext Ext.drew1).cell 0, (C0.out.ext Ext.drew1).cell 3, (C0.out.ext Ext.drew1).cell 4, (C0.out.ext Ext.drew1).cell 5, (M0.out.ext Ext.drew1).cell 1, (M0.out.ext Ext.drew1).cell 5⟩ (fun hHeld => ?_)
  have hx2 : Ext u0 u0.drew := Ext.drew1
  replace C0 := hJ (C0.out.ext hx2); replace M0 := hJ (M0.out.ext hx2); replace E0 := hJ (E0.out.trans hx2); replace O0 := hJ (O0.out.ext hx2); clear hx2
  generalize u0.drew = u1 at *
  refine E_t 0 4 ?_; refine E_t 1 5 ?_; refine E_t 2 6 ?_; refine E_t 3 7 ?_; refine E_t 4 8 ?_; refine E_s 5 9 ?_; refine E_s 6 10 ?_; refine E_s 7 11 ?_; refine E_s 8 12 ?_; refine E_s 9 13 ?_; refine E_t 10 14 ?_; refine E_t 11 15 ?_; refine E_s 12 16 ?_; refine E_s 13 17 ?_; refine E_s 14 18 ?_; refine E_s 15 19 ?_; refine E_s 16 20 ?_; refine E_s 17 21 ?_; refine E_s 18 22 ?_; refine E_s 19 23 ?_; refine E_s 20 24 ?_; refine E_s 21 25 ?_; refine E_s 22 26 ?_; refine E_s 23 27 ?_; refine E_s 24 28 ?_; refine E_s 25 29 ?_; refine E_t 26 30 ?_; refine E_t 27 31 ?_; refine E_s 28 32 ?_; refine E_s 29 33 ?_; refine E_s 30 34 ?_; refine E_s 31 35 ?_; refine E_s 32 36 ?_; refine E_s 33 37 ?_; refine E_s 34 38 ?_; refine E_s 35 39 ?_; refine E_s 36 40 ?_; refine E_s 37 41 ?_; refine E_s 38 42 ?_; refine E_s 39 43 ?_; refine E_s 40 44 ?_; refine E_s 41 45 ?_; refine E_t 42 46 ?_; refine E_end (by kernel_rfl) (by rfl) ?_
  go_wp2; go_end0; rw [HR.out, if_neg (by simp)]
  exact ⟨_, col, rfl, C0.out, rfl, Stp.ext' H.out.Bsz E0.out⟩
 have h0' : (0 : Int) < (ents.length : Int) := by omega
 have h0e : ¬ ents = [] := by intro e; rw [e] at h0; simp at h0
 cases v1
 ·refine E_begin 43 (fun w' => w'.cell? ⟨p, 0, none⟩ = some (.int .i64 self) ∧ w'.cell? ⟨p, 3, none⟩ = some (.slice Al log.length cl) ∧ w'.cell? ⟨p, 4, none⟩ = some (.int .i64 (sn : Int)) ∧ w'.cell? ⟨p, 5, none⟩ = some (.int .i64 sent) ∧ w'.cell? ⟨w.heap.size, 1, none⟩ = some (.int .i64 num) ∧ w'.cell? ⟨w.heap.size, 5, none⟩ = some (.slice Ae ents.length ce)) (by kernel_rfl) ⟨(C0.out.ext Ext.drew1).cell 0, (C0.out.ext Ext.drew1).cell 3, (C0.out.ext Ext.drew1).cell 4, (C0.out.ext Ext.drew1).cell 5, (M0.out.ext Ext.drew1).cell 1, (M0.out.ext Ext.drew1).cell 5⟩ (fun hHeld => ?_)
  have hx2 : Ext u0 u0.drew := Ext.drew1
  replace C0 := hJ (C0.out.ext hx2); replace M0 := hJ (M0.out.ext hx2); replace E0 := hJ (E0.out.trans hx2); replace O0 := hJ (O0.out.ext hx2); clear hx2
  generalize u0.drew = u1 at *
  refine E_t 0 4 ?_; refine E_t 1 5 ?_; refine E_t 2 6 ?_; refine E_t 3 7 ?_; refine E_t 4 8 ?_; refine E_t 5 9 ?_; refine E_t 6 10 ?_; refine E_t 7 11 ?_; refine E_t 8 12 ?_; refine E_ready [9] (by kernel_rfl) (by simp) ?_
  refine (AllE.cons (o := ⟨some 13, _, _, _, _, _⟩) rfl (fun K hK => ?_) AllE.nil)
  go_simp; go_at_call 89; refine (based_any Ae ce ents num _ O0.out (by omega) (fun e he => Nat.le_trans (HEP.out e he) (by omega))).mono ?_
  rintro en w9 ⟨rfl, hx2⟩
  rw [HV1.out]
  replace C0 := hJ (C0.out.ext hx2); replace M0 := hJ (M0.out.ext hx2); replace E0 := hJ (E0.out.trans hx2); replace O0 := hJ (O0.out.ext hx2); clear hx2
  clear hHeld; refine hK.out _ _ ⟨C0.out.cell 0, C0.out.cell 3, C0.out.cell 4, C0.out.cell 5, M0.out.cell 1, M0.out.cell 5⟩ (fun hHeld => ?_)
  clear hK K; try simp only [Act.put, aP1, aP2, aP3]
  refine E_t 10 14 ?_; refine E_t 11 15 ?_; refine E_s 12 16 ?_; refine E_s 13 17 ?_; refine E_s 14 18 ?_; refine E_s 15 19 ?_; refine E_s 16 20 ?_; refine E_s 17 21 ?_; refine E_s 18 22 ?_; refine E_s 19 23 ?_; refine E_s 20 24 ?_; refine E_s 21 25 ?_; refine E_s 22 26 ?_; refine E_s 23 27 ?_; refine E_s 24 28 ?_; refine E_s 25 29 ?_; refine E_t 26 30 ?_; refine E_t 27 31 ?_; refine E_s 28 32 ?_; refine E_s 29 33 ?_; refine E_s 30 34 ?_; refine E_s 31 35 ?_; refine E_s 32 36 ?_; refine E_s 33 37 ?_; refine E_s 34 38 ?_; refine E_s 35 39 ?_; refine E_s 36 40 ?_; refine E_s 37 41 ?_; refine E_s 38 42 ?_; refine E_s 39 43 ?_; refine E_s 40 44 ?_; refine E_s 41 45 ?_; refine E_t 42 46 ?_; refine E_end (by kernel_rfl) (by rfl) ?_
  go_wp2; go_end0; rw [HR.out, if_neg (by simp)]
  exact ⟨_, col, rfl, C0.out, rfl, Stp.ext' H.out.Bsz E0.out⟩
 cases v2
 ·refine E_begin 43 (fun w' => w'.cell? ⟨p, 0, none⟩ = some (.int .i64 self) ∧ w'.cell? ⟨p, 3, none⟩ = some (.slice Al log.length cl) ∧ w'.cell? ⟨p, 4, none⟩ = some (.int .i64 (sn : Int)) ∧ w'.cell? ⟨p, 5, none⟩ = some (.int .i64 sent) ∧ w'.cell? ⟨w.heap.size, 1, none⟩ = some (.int .i64 num) ∧ w'.cell? ⟨w.heap.size, 5, none⟩ = some (.slice Ae ents.length ce)) (by kernel_rfl) ⟨(C0.out.ext Ext.drew1).cell 0, (C0.out.ext Ext.drew1).cell 3, (C0.out.ext Ext.drew1).cell 4, (C0.out.ext Ext.drew1).cell 5, (M0.out.ext Ext.drew1).cell 1, (M0.out.ext Ext.drew1).cell 5⟩ (fun hHeld => ?_)
  have hx2 : Ext u0 u0.drew := Ext.drew1
  replace C0 := hJ (C0.out.ext hx2); replace M0 := hJ (M0.out.ext hx2); replace E0 := hJ (E0.out.trans hx2); replace O0 := hJ (O0.out.ext hx2); clear hx2
  generalize u0.drew = u1 at *
  refine E_t 0 4 ?_; refine E_t 1 5 ?_; refine E_t 2 6 ?_; refine E_t 3 7 ?_; refine E_t 4 8 ?_; refine E_t 5 9 ?_; refine E_t 6 10 ?_; refine E_t 7 11 ?_; refine E_t 8 12 ?_; refine E_ready [9] (by kernel_rfl) (by simp) ?_
  refine (AllE.cons (o := ⟨some 13, _, _, _, _, _⟩) rfl (fun K hK => ?_) AllE.nil)
  go_simp; go_at_call 89; refine (based_any Ae ce ents num _ O0.out (by omega) (fun e he => Nat.le_trans (HEP.out e he) (by omega))).mono ?_
  rintro en w9 ⟨rfl, hx2⟩
  rw [HV1.out]
  replace C0 := hJ (C0.out.ext hx2); replace M0 := hJ (M0.out.ext hx2); replace E0 := hJ (E0.out.trans hx2); replace O0 := hJ (O0.out.ext hx2); clear hx2
  clear hHeld; refine hK.out _ _ ⟨C0.out.cell 0, C0.out.cell 3, C0.out.cell 4, C0.out.cell 5, M0.out.cell 1, M0.out.cell 5⟩ (fun hHeld => ?_)
  clear hK K; try simp only [Act.put, aP1, aP2, aP3]
  refine E_t 10 14 ?_; refine E_t 11 15 ?_; refine E_t 12 16 ?_; refine E_t 13 17 ?_; refine E_t 14 18 ?_; refine E_t 15 19 ?_; refine E_t 16 20 ?_; refine E_t 17 21 ?_; refine E_t 18 22 ?_; refine E_t 19 23 ?_; refine E_t 20 24 ?_; refine E_t 21 25 ?_; refine E_t 22 26 ?_; refine E_t 23 27 ?_; refine E_t 24 28 ?_; refine E_ready [25] (by kernel_rfl) (by simp) ?_
  refine (AllE.cons (o := ⟨some 29, _, _, _, _, _⟩) rfl (fun K hK => ?_) AllE.nil)
  go_simp; go_at_call 130; refine (begins_len Ae Al ce cl sn ents (log.take sn) _ O0.out (C0.out.lies.log.row.take_ents sn) (by omega) (by rw [List.length_take]; omega) hk1).mono ?_
  rintro en w25 ⟨rfl, hx2⟩
  rw [HV2.out]
  replace C0 := hJ (C0.out.ext hx2); replace M0 := hJ (M0.out.ext hx2); replace E0 := hJ (E0.out.trans hx2); replace O0 := hJ (O0.out.ext hx2); clear hx2
  clear hHeld; refine hK.out _ _ ⟨C0.out.cell 0, C0.out.cell 3, C0.out.cell 4, C0.out.cell 5, M0.out.cell 1, M0.out.cell 5⟩ (fun hHeld => ?_)
  clear hK K; try simp only [Act.put, aP1, aP2, aP3]
  refine E_t 26 30 ?_; refine E_t 27 31 ?_; refine E_s 28 32 ?_; refine E_s 29 33 ?_; refine E_s 30 34 ?_; refine E_s 31 35 ?_; refine E_s 32 36 ?_; refine E_s 33 37 ?_; refine E_s 34 38 ?_; refine E_s 35 39 ?_; refine E_s 36 40 ?_; refine E_s 37 41 ?_; refine E_s 38 42 ?_; refine E_s 39 43 ?_; refine E_s 40 44 ?_; refine E_s 41 45 ?_; refine E_t 42 46 ?_; refine E_end (by kernel_rfl) (by rfl) ?_
  go_wp2; go_end0; rw [HR.out, if_neg (by simp)]
  exact ⟨_, col, rfl, C0.out, rfl, Stp.ext' H.out.Bsz E0.out⟩
 by_cases hs : (on : Int) ≤ sent
 rotate_left
 ·have hs' : decide ((on : Int) ≤ sent) = false := by simpa using hs
  refine E_begin 43 (fun w' => w'.cell? ⟨p, 0, none⟩ = some (.int .i64 self) ∧ w'.cell? ⟨p, 3, none⟩ = some (.slice Al log.length cl) ∧ w'.cell? ⟨p, 4, none⟩ = some (.int .i64 (sn : Int)) ∧ w'.cell? ⟨p, 5, none⟩ = some (.int .i64 sent) ∧ w'.cell? ⟨w.heap.size, 1, none⟩ = some (.int .i64 num) ∧ w'.cell? ⟨w.heap.size, 5, none⟩ = some (.slice Ae ents.length ce)) (by kernel_rfl) ⟨(C0.out.ext Ext.drew1).cell 0, (C0.out.ext Ext.drew1).cell 3, (C0.out.ext Ext.drew1).cell 4, (C0.out.ext Ext.drew1).cell 5, (M0.out.ext Ext.drew1).cell 1, (M0.out.ext Ext.drew1).cell 5⟩ (fun hHeld => ?_)
  have hx2 : Ext u0 u0.drew := Ext.drew1
  replace C0 := hJ (C0.out.ext hx2); replace M0 := hJ (M0.out.ext hx2); replace E0 := hJ (E0.out.trans hx2); replace O0 := hJ (O0.out.ext hx2); clear hx2
  generalize u0.drew = u1 at *
  refine E_t 0 4 ?_; refine E_t 1 5 ?_; refine E_t 2 6 ?_; refine E_t 3 7 ?_; refine E_t 4 8 ?_; refine E_t 5 9 ?_; refine E_t 6 10 ?_; refine E_t 7 11 ?_; refine E_t 8 12 ?_; refine E_ready [9] (by kernel_rfl) (by simp) ?_
  refine (AllE.cons (o := ⟨some 13, _, _, _, _, _⟩) rfl (fun K hK => ?_) AllE.nil)
  go_simp; go_at_call 89; refine (based_any Ae ce ents num _ O0.out (by omega) (fun e he => Nat.le_trans (HEP.out e he) (by omega))).mono ?_
  rintro en w9 ⟨rfl, hx2⟩
  rw [HV1.out]
  replace C0 := hJ (C0.out.ext hx2); replace M0 := hJ (M0.out.ext hx2); replace E0 := hJ (E0.out.trans hx2); replace O0 := hJ (O0.out.ext hx2); clear hx2
  clear hHeld; refine hK.out _ _ ⟨C0.out.cell 0, C0.out.cell 3, C0.out.cell 4, C0.out.cell 5, M0.out.cell 1, M0.out.cell 5⟩ (fun hHeld => ?_)
  clear hK K; try simp only [Act.put, aP1, aP2, aP3]
  refine E_t 10 14 ?_; refine E_t 11 15 ?_; refine E_t 12 16 ?_; refine E_t 13 17 ?_; refine E_t 14 18 ?_; refine E_t 15 19 ?_; refine E_t 16 20 ?_; refine E_t 17 21 ?_; refine E_t 18 22 ?_; refine E_t 19 23 ?_; refine E_t 20 24 ?_; refine E_t 21 25 ?_; refine E_t 22 26 ?_; refine E_t 23 27 ?_; refine E_t 24 28 ?_; refine E_ready [25] (by kernel_rfl) (by simp) ?_
  refine (AllE.cons (o := ⟨some 29, _, _, _, _, _⟩) rfl (fun K hK => ?_) AllE.nil)
  go_simp; go_at_call 130; refine (begins_len Ae Al ce cl sn ents (log.take sn) _ O0.out (C0.out.lies.log.row.take_ents sn) (by omega) (by rw [List.length_take]; omega) hk1).mono ?_
  rintro en w25 ⟨rfl, hx2⟩
  rw [HV2.out]
  replace C0 := hJ (C0.out.ext hx2); replace M0 := hJ (M0.out.ext hx2); replace E0 := hJ (E0.out.trans hx2); replace O0 := hJ (O0.out.ext hx2); clear hx2
  clear hHeld; refine hK.out _ _ ⟨C0.out.cell 0, C0.out.cell 3, C0.out.cell 4, C0.out.cell 5, M0.out.cell 1, M0.out.cell 5⟩ (fun hHeld => ?_)
  clear hK K; try simp only [Act.put, aP1, aP2, aP3]
  refine E_t 26 30 ?_; refine E_t 27 31 ?_; refine E_t 28 32 ?_; refine E_t 29 33 ?_; refine E_t 30 34 ?_; refine E_t 31 35 ?_; refine E_t 32 36 ?_; refine E_t 33 37 ?_; refine E_t 34 38 ?_; refine E_t 36 40 ?_; refine E_t 37 41 ?_; refine E_t 38 42 ?_; refine E_t 39 43 ?_; refine E_t 40 44 ?_; refine E_ready [35] (by kernel_rfl) (by simp) ?_
  refine (AllE.cons (o := ⟨some 39, _, _, _, _, _⟩) rfl (fun K hK => ?_) AllE.nil)
  go_simp; go_at_call 91; refine (own_any Ae ce ents self _ O0.out (by omega)).mono ?_
  rintro en w35 ⟨rfl, hx2⟩
  rw [HON.out]
  replace C0 := hJ (C0.out.ext hx2); replace M0 := hJ (M0.out.ext hx2); replace E0 := hJ (E0.out.trans hx2); replace O0 := hJ (O0.out.ext hx2); clear hx2
  clear hHeld; refine hK.out _ _ ⟨C0.out.cell 0, C0.out.cell 3, C0.out.cell 4, C0.out.cell 5, M0.out.cell 1, M0.out.cell 5⟩ (fun hHeld => ?_)
  clear hK K; try simp only [Act.put, aP1, aP2, aP3]
  refine E_t 41 45 ?_; refine E_t 42 46 ?_; refine E_end (by kernel_rfl) (by rfl) ?_
  go_wp2; go_end0; rw [HR.out, if_neg (fun e => by have := e.2.2.2; omega)]
  exact ⟨_, col, rfl, C0.out, rfl, Stp.ext' H.out.Bsz E0.out⟩
 have hs' : decide ((on : Int) ≤ sent) = true := by simpa using hs
 refine E_begin 43 (fun w' => w'.cell? ⟨p, 0, none⟩ = some (.int .i64 self) ∧ w'.cell? ⟨p, 3, none⟩ = some (.slice Al log.length cl) ∧ w'.cell? ⟨p, 4, none⟩ = some (.int .i64 (sn : Int)) ∧ w'.cell? ⟨p, 5, none⟩ = some (.int .i64 sent) ∧ w'.cell? ⟨w.heap.size, 1, none⟩ = some (.int .i64 num) ∧ w'.cell? ⟨w.heap.size, 5, none⟩ = some (.slice Ae ents.length ce)) (by kernel_rfl) ⟨(C0.out.ext Ext.drew1).cell 0, (C0.out.ext Ext.drew1).cell 3, (C0.out.ext Ext.drew1).cell 4, (C0.out.ext Ext.drew1).cell 5, (M0.out.ext Ext.drew1).cell 1, (M0.out.ext Ext.drew1).cell 5⟩ (fun hHeld => ?_)
 have hx2 : Ext u0 u0.drew := Ext.drew1
 replace C0 := hJ (C0.out.ext hx2); replace M0 := hJ (M0.out.ext hx2); replace E0 := hJ (E0.out.trans hx2); replace O0 := hJ (O0.out.ext hx2); clear hx2
 generalize u0.drew = u1 at *
 refine E_t 0 4 ?_; refine E_t 1 5 ?_; refine E_t 2 6 ?_; refine E_t 3 7 ?_; refine E_t 4 8 ?_; refine E_t 5 9 ?_; refine E_t 6 10 ?_; refine E_t 7 11 ?_; refine E_t 8 12 ?_; refine E_ready [9] (by kernel_rfl) (by simp) ?_
 refine (AllE.cons (o := ⟨some 13, _, _, _, _, _⟩) rfl (fun K hK => ?_) AllE.nil)
 go_simp; go_at_call 89; refine (based_any Ae ce ents num _ O0.out (by omega) (fun e he => Nat.le_trans (HEP.out e he) (by omega))).mono ?_
 rintro en w9 ⟨rfl, hx2⟩
 rw [HV1.out]
 replace C0 := hJ (C0.out.ext hx2); replace M0 := hJ (M0.out.ext hx2); replace E0 := hJ (E0.out.trans hx2); replace O0 := hJ (O0.out.ext hx2); clear hx2
 clear hHeld; refine hK.out _ _ ⟨C0.out.cell 0, C0.out.cell 3, C0.out.cell 4, C0.out.cell 5, M0.out.cell 1, M0.out.cell 5⟩ (fun hHeld => ?_)
 clear hK K; try simp only [Act.put, aP1, aP2, aP3]
 refine E_t 10 14 ?_; refine E_t 11 15 ?_; refine E_t 12 16 ?_; refine E_t 13 17 ?_; refine E_t 14 18 ?_; refine E_t 15 19 ?_; refine E_t 16 20 ?_; refine E_t 17 21 ?_; refine E_t 18 22 ?_; refine E_t 19 23 ?_; refine E_t 20 24 ?_; refine E_t 21 25 ?_; refine E_t 22 26 ?_; refine E_t 23 27 ?_; refine E_t 24 28 ?_; refine E_ready [25] (by kernel_rfl) (by simp) ?_
 refine (AllE.cons (o := ⟨some 29, _, _, _, _, _⟩) rfl (fun K hK => ?_) AllE.nil)
 go_simp; go_at_call 130; refine (begins_len Ae Al ce cl sn ents (log.take sn) _ O0.out (C0.out.lies.log.row.take_ents sn) (by omega) (by rw [List.length_take]; omega) hk1).mono ?_
 rintro en w25 ⟨rfl, hx2⟩
 rw [HV2.out]
 replace C0 := hJ (C0.out.ext hx2); replace M0 := hJ (M0.out.ext hx2); replace E0 := hJ (E0.out.trans hx2); replace O0 := hJ (O0.out.ext hx2); clear hx2
 clear hHeld; refine hK.out _ _ ⟨C0.out.cell 0, C0.out.cell 3, C0.out.cell 4, C0.out.cell 5, M0.out.cell 1, M0.out.cell 5⟩ (fun hHeld => ?_)
 clear hK K; try simp only [Act.put, aP1, aP2, aP3]
 refine E_t 26 30 ?_; refine E_t 27 31 ?_; refine E_t 28 32 ?_; refine E_t 29 33 ?_; refine E_t 30 34 ?_; refine E_t 31 35 ?_; refine E_t 32 36 ?_; refine E_t 33 37 ?_; refine E_t 34 38 ?_; refine E_t 36 40 ?_; refine E_t 37 41 ?_; refine E_t 38 42 ?_; refine E_t 39 43 ?_; refine E_t 40 44 ?_; refine E_ready [35] (by kernel_rfl) (by simp) ?_
 refine (AllE.cons (o := ⟨some 39, _, _, _, _, _⟩) rfl (fun K hK => ?_) AllE.nil)
 go_simp; go_at_call 91; refine (own_any Ae ce ents self _ O0.out (by omega)).mono ?_
 rintro en w35 ⟨rfl, hx2⟩
 rw [HON.out]
 replace C0 := hJ (C0.out.ext hx2); replace M0 := hJ (M0.out.ext hx2); replace E0 := hJ (E0.out.trans hx2); replace O0 := hJ (O0.out.ext hx2); clear hx2
 clear hHeld; refine hK.out _ _ ⟨C0.out.cell 0, C0.out.cell 3, C0.out.cell 4, C0.out.cell 5, M0.out.cell 1, M0.out.cell 5⟩ (fun hHeld => ?_)
 clear hK K; try simp only [Act.put, aP1, aP2, aP3]
 refine E_t 41 45 ?_; refine E_t 42 46 ?_; refine E_end (by kernel_rfl) (by rfl) ?_
 go_upto_region 2 with fail
 rw [if_pos ⟨h0, rfl, rfl, hs⟩] at HR
 have hne : w.heap.size ≠ p := Nat.ne_of_gt hpl
 obtain ⟨uE, rfl⟩ : ∃ x, x = w35 := ⟨_, rfl⟩
 refine E_begin 14 (fun w' => w'.cell? ⟨w.heap.size, 1, none⟩ = some (.int .i64 num) ∧ w'.cell? ⟨w.heap.size, 5, none⟩ = some (.slice Ae ents.length ce)) (by kernel_rfl) ⟨(M0.out.ext Ext.drew1).cell 1, (M0.out.ext Ext.drew1).cell 5⟩ (fun hHeld => ?_)
 have hx2 : Ext uE uE.drew := Ext.drew1
 replace C0 := hJ (C0.out.ext hx2); replace M0 := hJ (M0.out.ext hx2); replace E0 := hJ (E0.out.trans hx2); replace O0 := hJ (O0.out.ext hx2); clear hx2
 generalize uE.drew = u9 at *
 refine E_t 0 47 ?_; refine E_t 1 48 ?_; refine E_t 2 49 ?_; refine E_t 3 50 ?_; refine E_t 4 51 ?_; refine E_t 5 52 ?_; refine E_t 6 53 ?_; refine E_t 7 54 ?_; refine E_t 8 55 ?_; refine E_ready [9] (by kernel_rfl) (by simp) ?_
 refine (AllE.cons (o := ⟨none, _, _, _, _, _⟩) rfl (fun K hK => ?_) AllE.nil)
 have y2 : u9.cell? ⟨p, 2, none⟩ = some (.int .i64 base) := C0.out.cell 2
 have f2 := C0.out.free 2
 go_simp; have BX1 : Hid (BIs (u9.setCell ⟨p, 2, none⟩ (.int .i64 num)) p (⟨⟨self, num, (sn : Int), sent, Av, cv, vs, Al, cl, log, Ap, cp, pend, Am, cm, marks, Af, cf, fls⟩, Ak, ck, pk, Ad, cd, dl⟩ : CM).cells 86) := hJ (C0.out.box.set 2 _)
 have M1 : Hid (BIs (u9.setCell ⟨p, 2, none⟩ (.int .i64 num)) w.heap.size #[.int .i64 kind, .int .i64 num, .int .i64 first, .int .i64 mst, .string (strB pay), .slice Ae ents.length ce] 110) := hJ (M0.out.wrote hne (Wrote.set _ _ _ _))
 clear hHeld; refine hK.out _ _ ⟨M1.out.cell 1, M1.out.cell 5⟩ (fun hHeld => ?_)
 clear hK K; try simp only [Act.put, aP1, aP2, aP3]
 refine E_t 10 56 ?_; refine E_t 11 57 ?_; refine E_t 12 58 ?_; refine E_ready [13] (by kernel_rfl) (by simp) ?_
 refine (AllE.cons (o := ⟨none, _, _, _, _, _⟩) rfl (fun K hK => ?_) AllE.nil)
 have y3 : (u9.setCell ⟨p, 2, none⟩ (.int .i64 num)).cell? ⟨p, 3, none⟩ = some (.slice Al log.length cl) := BX1.out.cell 3
 have f3 := BX1.out.free 3
 go_simp; have M2 : Hid (BIs ((u9.setCell ⟨p, 2, none⟩ (.int .i64 num)).setCell ⟨p, 3, none⟩ (.slice Ae ents.length ce)) w.heap.size #[.int .i64 kind, .int .i64 num, .int .i64 first, .int .i64 mst, .string (strB pay), .slice Ae ents.length ce] 110) := hJ (M1.out.wrote hne (Wrote.set _ _ _ _))
 clear hHeld; refine hK.out _ _ ⟨M2.out.cell 1, M2.out.cell 5⟩ (fun hHeld => ?_)
 clear hK K; try simp only [Act.put, aP1, aP2, aP3]
 refine E_end (by kernel_rfl) (by rfl) ?_
 go_wp2; go_end0; have hpc : col p = 1 := H.out.pc
 have S4 : Stp B [1] col u9 col ((u9.setCell ⟨p, 2, none⟩ (.int .i64 num)).setCell ⟨p, 3, none⟩ (.slice Ae ents.length ce)) := Stp.wrote ((Wrote.set p 2 u9 _).trans (Wrote.set p 3 _ _)) H.out.bp C0.out.Bsz (by rw [hpc]; simp)
 refine ⟨⟨⟨self, num, (sn : Int), sent, Av, cv, vs, Ae, ce, ents, Ap, cp, pend, Am, cm, marks, Af, cf, fls⟩, Ak, ck, pk, Ad, cd, dl⟩, col, rfl, ?_, ?_, ?_⟩
 ·have h := C0.out
  have hf := h.fits
  have x := h.lies.relog S4 (by simp) (by simp) (by simp) (by simp) (S4.own (HO.out.ext E0.out) HCE.out (by simp)) (S4.colV (HO.out.ext E0.out) HCE.out)
  refine ⟨BX1.out.set 3 _, hpc, h.bp, ⟨x.vs, x.vc, x.vi, x.log, x.lc, x.pend, x.pc, x.marks, x.mc, x.fls, x.fc, x.fi⟩, S4.own h.pk h.kc (by simp), S4.colV h.pk h.kc, h.kiK S4 (by simp), S4.own h.dl h.dc (by simp), S4.colV h.dl h.dc, ?_, h.cp⟩
  exact ⟨hf.vs, hf.vx, by show ents.length ≤ 100000; omega, fun e he => Nat.le_trans (HEP.out e he) (by omega), hf.pend, hf.pp, hf.marks, hf.fls, hf.fl, hk1, hk2⟩
 ·rw [HR.out]; rfl
 ·exact ((Stp.ext (cs := [1]) H.out.Bsz E0.out (fun _ _ => rfl)).trans S4).mono (cs' := [1, 2, 3, 4, 5, 7]) (by simp)
end Go.Proofs.YtponbabbabnaeaaGreat
namespace Go.Proofs.YtponbabbabnaeaaGreat
structure Grown (s t : St) (l : List Ent) : Prop where
 st : t.stable = s.stable + l.length
 cut : cutL t.log s.stable t.stable = l
 pre : t.log.take s.stable.toNat = s.log.take s.stable.toNat
structure Good (s : St) (c : Cs) : Prop where
 vs : VS c.s
 gr : Grown s c.s c.dl
 z : 0 ≤ s.stable
theorem cutL_self (l : List Ent) (n : Int) : cutL l n n = [] := by unfold cutL; simp
theorem Grown.same {s t : St} (h1 : t.stable = s.stable) (h2 : t.log.take s.stable.toNat = s.log.take s.stable.toNat) : Grown s t [] := ⟨by simp [h1], by rw [h1]; exact cutL_self _ _, h2⟩
theorem Good.begin {s : St} (h : VS s) (pk : List (Int × List UInt8)) : Good s ⟨s, pk, []⟩ := ⟨h, Grown.same rfl rfl, h.st0⟩
theorem Good.le {s : St} {c : Cs} (g : Good s c) : s.stable ≤ c.s.stable := by have := g.gr.st; omega
theorem Good.extend {s : St} {c : Cs} (g : Good s c) {ex : List Ent} (hb : basedB (c.s.log ++ ex) c.s.base = true) (ho : (ownN (c.s.log ++ ex) c.s.self : Int) ≤ c.s.sent) : Good s { c with s := { c.s with log := c.s.log ++ ex } } := by
 have h1 := g.vs.st; have h0 := g.vs.st0; have hle := g.le; have hz := g.z
 refine ⟨g.vs.extend hb ho, ⟨g.gr.st, ?_, ?_⟩, g.z⟩
 ·show cutL (c.s.log ++ ex) s.stable c.s.stable = c.dl
  rw [← g.gr.cut]
  unfold cutL
  rw [List.take_append_of_le_length (by omega)]
 ·show (c.s.log ++ ex).take s.stable.toNat = _
  rw [List.take_append_of_le_length (by omega)]; exact g.gr.pre
theorem Good.raise {s : St} {c : Cs} (g : Good s c) {n : Int} (hl : n ≤ c.s.log.length) : Good s (raiseF c n) := by
 unfold raiseF
 split
 ·exact g
 ·next hn =>
  have h1 := g.vs.st; have h0 := g.vs.st0; have hle := g.le; have hz := g.z; have hst := g.gr.st
  have e1 : c.s.log.take n.toNat = c.s.log.take c.s.stable.toNat ++ cutL c.s.log c.s.stable n := by
   unfold cutL
   rw [show c.s.log.take c.s.stable.toNat = (c.s.log.take n.toNat).take c.s.stable.toNat by rw [List.take_take, Nat.min_eq_left (by omega)], List.take_append_drop]
  refine ⟨g.vs.raise (by omega) hl, ⟨?_, ?_, g.gr.pre⟩, g.z⟩
  ·show n = s.stable + ((c.dl ++ cutL c.s.log c.s.stable n).length : Nat)
   have : (cutL c.s.log c.s.stable n).length = n.toNat - c.s.stable.toNat := by unfold cutL; simp; omega
   rw [List.length_append, this]; omega
  ·show cutL c.s.log s.stable n = c.dl ++ cutL c.s.log c.s.stable n
   rw [← g.gr.cut]
   rw [show cutL c.s.log s.stable n = (c.s.log.take n.toNat).drop s.stable.toNat from rfl, e1, List.drop_append_of_le_length (by simp; omega)]
   rfl
theorem Good.take {s : St} {c : Cs} (g : Good s c) (ho : openB c.s = true) : Good s { c with s := takeF c.s } := by
 obtain ⟨_, hb⟩ := g.vs.open_base ho
 obtain ⟨b1, b2, b3⟩ := g.vs.log hb
 have hl := (vlog_inv b2).1
 have hk : c.s.log.length + takeN c.s ≤ 2000 := by unfold takeN; omega
 obtain ⟨t1, t2⟩ := takeL_valid b2 b1 b3 g.vs.self g.vs.pp (takeN c.s) hk
 have hn := takeL_len c.s (takeN c.s)
 refine g.extend (ex := (List.range (takeN c.s)).map fun i : Nat => ⟨c.s.base, c.s.self, ownN c.s.log c.s.self + 1 + i, pendAt c.s (ownN c.s.log c.s.self + 1 + i)⟩) (based_mk ?_ t1 t2 hb) ?_
 ·simp; omega
 ·show (ownN (takeL c.s (takeN c.s)) c.s.self : Int) ≤ c.s.sent
  have := g.vs.own
  rw [ownN_take_more]; unfold takeN; omega
theorem Good.announce {s : St} {c : Cs} (g : Good s c) : Good s (announceF c) := by
 unfold announceF
 split
 ·exact g
 ·refine g.raise ?_
  cases hx : (sortI (lensF c.s))[(((lensF c.s).length : Int) - majZ (lastV c.s.views).2.length).toNat]? with
  | none => simp
  | some y =>
   have h1 : y ∈ lensF c.s := (sortI_perm _).mem_iff.1 (List.mem_of_getElem? hx)
   unfold lensF at h1
   rcases List.mem_cons.1 h1 with rfl | h1
   ·simp
   ·obtain ⟨m, hm, rfl⟩ := List.mem_map.1 h1
    exact (g.vs.mks m hm).2.2.2
theorem Good.send {s : St} {c c' : Cs} (g : Good s c) (h1 : c'.s = c.s) (h2 : c'.dl = c.dl) : Good s c' := ⟨h1 ▸ g.vs, by rw [h1, h2]; exact g.gr, g.z⟩
theorem VS.put {s : St} (h : VS s) {f : Fls} (ho : openB s = false) (hl : leadB s = true) (hi : isId f.1 = true) (hp : possB s.views f = true) : VS { s with fls := putF s.fls f } := by
 have hi' : 0 < f.1 := by unfold isId at hi; simp at hi; omega
 have key : (putF s.fls f).map Prod.fst |>.Pairwise (· < ·) := by
  obtain ⟨k1, k2⟩ := put_asc (fun g : Fls => g.1) f s.fls h.fla.1
  unfold putF spotF
  split
  ·next he => exact k1 he
  ·next he => exact k2 he
 have mem : ∀ g ∈ putF s.fls f, g = f ∨ g ∈ s.fls := by
  intro g hg
  unfold putF at hg
  split at hg
  ·rcases List.mem_or_eq_of_mem_set hg with hg | hg
   ·exact .inr hg
   ·exact .inl hg
  ·exact mem_put hg
 refine ⟨h.self, h.vs, h.sent0, h.sent, h.based, h.known, h.own, h.st0, h.st, h.pl, h.pd, h.pp, h.mk0, .inr ⟨ho, hl⟩, h.mka, h.mks, ⟨key, fun k hk => ?_⟩, fun g hg => ?_⟩
 ·obtain ⟨g, hg, rfl⟩ := List.mem_map.1 hk
  rcases mem g hg with rfl | hg
  ·exact hi'
  ·exact h.fla.2 _ (List.mem_map.2 ⟨g, hg, rfl⟩)
 ·rcases mem g hg with rfl | hg
  ·exact ⟨hi, hp⟩
  ·exact h.fls g hg
theorem VS.ack {s : St} (h : VS s) {fr n : Int} (ho : openB s = true) (hl : leadB s = true) (hne : fr ≠ s.self) (hm : hasB (lastV s.views).2 fr = true) (hn0 : 0 ≤ n) (hn : n ≤ s.log.length) : VS { s with marks := ackM s.marks fr n } := by
 have hf0 : 0 < fr := ((idsB_iff (m := 16)).1 (validB_ids h.last)).2.2.2 fr (hasB_iff.1 hm) |>.1
 have mem : ∀ x ∈ ackM s.marks fr n, x ∈ s.marks ∨ (x.1 = fr ∧ (x.2 = max 0 n ∨ ∃ y ∈ s.marks, x.2 = max y.2 n)) := by
  intro x hx
  unfold ackM at hx
  split at hx
  ·next a b hab =>
   split at hx
   ·next he =>
    rcases List.mem_or_eq_of_mem_set hx with hx | rfl
    ·exact .inl hx
    ·exact .inr ⟨he, .inr ⟨(a, b), List.mem_of_getElem? hab, rfl⟩⟩
   ·rcases mem_put hx with rfl | hx
    ·exact .inr ⟨rfl, .inl rfl⟩
    ·exact .inl hx
  ·rcases List.mem_append.1 hx with hx | hx
   ·exact .inl hx
   ·simp only [List.mem_cons, List.not_mem_nil, or_false] at hx
    subst hx
    exact .inr ⟨rfl, .inl rfl⟩
 have key : ((ackM s.marks fr n).map Prod.fst).Pairwise (· < ·) := by
  unfold ackM
  split
  ·next a b hab =>
   split
   ·next he =>
    subst he
    obtain ⟨k1, _⟩ := put_asc (fun g : Int × Int => g.1) (a, max b n) s.marks h.mka.1
    exact k1 (by show (s.marks[spotM s.marks a]?).map _ = _; rw [hab]; rfl)
   ·next he =>
    obtain ⟨_, k2⟩ := put_asc (fun g : Int × Int => g.1) (fr, max 0 n) s.marks h.mka.1
    exact k2 (by show (s.marks[spotM s.marks fr]?).map _ ≠ _; rw [hab]; simpa using he)
  ·next hno =>
   obtain ⟨_, k2⟩ := put_asc (fun g : Int × Int => g.1) (fr, max 0 n) s.marks h.mka.1
   have hle : s.marks.length ≤ spotM s.marks fr := by
    rcases Nat.lt_or_ge (spotM s.marks fr) s.marks.length with hlt | hge
    ·rw [List.getElem?_eq_getElem hlt] at hno; cases hno
    ·exact hge
   have := k2 (by show (s.marks[spotM s.marks fr]?).map _ ≠ _; rw [List.getElem?_eq_none hle]; simp)
   have e : ∀ k, s.marks.length ≤ k → s.marks.take k ++ (fr, max 0 n) :: s.marks.drop k = s.marks ++ [(fr, max 0 n)] := fun k hk => by rw [List.take_of_length_le hk, List.drop_of_length_le hk]
   rw [show (s.marks.take (s.marks.takeWhile fun y => decide (y.1 < (fr, max 0 n).1)).length ++ (fr, max 0 n) :: s.marks.drop (s.marks.takeWhile fun y => decide (y.1 < (fr, max 0 n).1)).length) = s.marks ++ [(fr, max 0 n)] from e _ hle] at this
   exact this
 refine ⟨h.self, h.vs, h.sent0, h.sent, h.based, h.known, h.own, h.st0, h.st, h.pl, h.pd, h.pp, .inr ⟨ho, hl⟩, h.fl0, ⟨key, fun k hk => ?_⟩, fun x hx => ?_, h.fla, h.fls⟩
 ·obtain ⟨x, hx, rfl⟩ := List.mem_map.1 hk
  rcases mem x hx with hx | ⟨he, _⟩
  ·exact h.mka.2 _ (List.mem_map.2 ⟨x, hx, rfl⟩)
  ·rw [he]; exact hf0
 ·rcases mem x hx with hx | ⟨he, h2⟩
  ·exact h.mks x hx
  ·refine ⟨by rw [he]; exact hne, by rw [he]; exact hm, ?_, ?_⟩
   ·rcases h2 with h2 | ⟨y, hy, h2⟩ <;> rw [h2] <;> omega
   ·show x.2 ≤ (s.log.length : Int)
    rcases h2 with h2 | ⟨y, hy, h2⟩
    ·rw [h2]; omega
    ·have := (h.mks y hy).2.2.2; rw [h2]; omega
theorem chosen_go (base : Int) : ∀ (l : List Fls) (out : List Ent), (l.foldl (fun out f => if f.2.1 = base ∧ out.length < f.2.2.length then f.2.2 else out) out) = out ∨ ∃ f ∈ l, f.2.1 = base ∧ (l.foldl (fun out f => if f.2.1 = base ∧ out.length < f.2.2.length then f.2.2 else out) out) = f.2.2
 | [], out => .inl rfl
 | f :: l, out => by
  simp only [List.foldl_cons]
  by_cases hc : f.2.1 = base ∧ out.length < f.2.2.length
  ·rw [if_pos hc]
   rcases chosen_go base l f.2.2 with h | ⟨g, hg, h⟩
   ·exact .inr ⟨f, by simp, hc.1, h⟩
   ·exact .inr ⟨g, by simp [hg], h⟩
  ·rw [if_neg hc]
   rcases chosen_go base l out with h | ⟨g, hg, h⟩
   ·exact .inl h
   ·exact .inr ⟨g, by simp [hg], h⟩
theorem isViewE_mk {n : Int} {xs : List Int} (h : validB n xs = true) : isViewE (viewEnt n xs) = true := by
 unfold isViewE
 have : (viewEnt n xs).p = encV n xs := rfl
 rw [this, decV_enc h]
 simp
theorem vlog_view {l : List Ent} {n : Int} {xs : List Int} (hl : validLog l = true) (hlen : l.length < 2000) (hn : validB n xs = true) (hlt : l = [] ∨ lastE l < n) : validLog (l ++ [viewEnt n xs]) = true ∧ lastE (l ++ [viewEnt n xs]) = n := by
 refine ⟨vlog_snoc hl hlen ?_, by unfold lastE; simp [viewEnt]⟩
 unfold okEnt
 rcases hlt with rfl | hlt
 ·rw [if_pos (.inl rfl)]
  simp [isViewE_mk hn]
 ·rcases Nat.eq_zero_or_pos l.length with h0 | h0
  ·rw [if_pos (.inl h0)]
   simp [isViewE_mk hn, h0]
  ·have hp : prevV (l ++ [viewEnt n xs]) l.length = lastE l := by
    rw [prevV_app (Nat.le_refl _) h0]; rfl
   have hv : (viewEnt n xs).v = n := rfl
   rw [hp, hv, if_pos (.inr (by omega)), isViewE_mk hn]
   simp; omega
theorem VS.install {s : St} (h : VS s) (ho : openB s = false) (hl : leadB s = true) : VS (installF s) ∧ Grown s (installF s) [] := by
 unfold installF
 split
 ·exact ⟨h, Grown.same rfl rfl⟩
 ·next h1 =>
  split
  ·exact ⟨h, Grown.same rfl rfl⟩
  ·split
   ·exact ⟨h, Grown.same rfl rfl⟩
   ·next h3 =>
    have hm : s.marks = [] := by
     rcases h.mk0 with hm | ⟨hm, _⟩
     ·exact hm
     ·rw [ho] at hm; cases hm
    have h3' : fitsB s (chosenF s.fls (baseMax s.fls)) = true := by simpa using h3
    unfold fitsB at h3'
    simp only [Bool.and_eq_true, decide_eq_true_eq] at h3'
    obtain ⟨f1, f2, f3⟩ := h3'
    have hch : validLog (chosenF s.fls (baseMax s.fls)) = true ∧ (chosenF s.fls (baseMax s.fls) = [] ∨ lastE (chosenF s.fls (baseMax s.fls)) < (lastV s.views).1) := by
     rcases chosen_go (baseMax s.fls) s.fls [] with hc | ⟨f, hf, hb, hc⟩
     ·have : chosenF s.fls (baseMax s.fls) = [] := hc
      rw [this]; exact ⟨by decide, .inl rfl⟩
     ·have : chosenF s.fls (baseMax s.fls) = f.2.2 := hc
      rw [this]
      have hp := (h.fls f hf).2
      have hbn : f.2.1 ≠ -1 := by
       intro e; rw [e] at hb; exact h1 (.inr hb.symm)
      unfold possB basedB at hp
      rw [if_neg hbn, if_neg hbn] at hp
      simp only [Bool.and_eq_true, decide_eq_true_eq] at hp
      obtain ⟨p1, p2, p3, p4⟩ := hp
      refine ⟨p3, .inr ?_⟩
      rw [p4]
      cases hk : knownV s.views f.2.1 with
      | none => rw [hk] at p1; cases p1
      | some v => rw [hk] at p1; simp only [Bool.and_eq_true, decide_eq_true_eq] at p1; exact p1.1
    obtain ⟨v1, v2⟩ := vlog_view hch.1 f1 h.last hch.2
    have hn := validB_num h.last
    obtain ⟨k1, k2⟩ := h.relog hm (based_mk (by simp) v1 v2 (by omega)) (h.lead_has hl) (l := chosenF s.fls (baseMax s.fls) ++ [viewEnt (lastV s.views).1 (lastV s.views).2]) (by
     unfold begsB at f2 ⊢
     simp only [Bool.and_eq_true, decide_eq_true_eq] at f2 ⊢
     refine ⟨by simp only [List.length_append]; omega, ?_⟩
     rw [List.take_append_of_le_length f2.1]; exact f2.2) (by
     rw [ownN_app]
     have hs := h.self
     unfold isId at hs
     simp at hs
     have : ownN [viewEnt (lastV s.views).1 (lastV s.views).2] s.self = 0 := by
      simp [ownN, viewEnt]; omega
     rw [this]; exact f3)
    exact ⟨k1, Grown.same rfl k2⟩
theorem closed_tick {s : St} (h : VS s) : Good s (tickF s) := by
 unfold tickF
 rw [if_neg (by rw [vs_iff.2 h]; simp)]
 unfold tickC
 cases ho : openB s with
 | true =>
  simp only [if_true]
  cases hl : leadB s with
  | true =>
   simp only [if_true]
   unfold leadF
   simp only
   have g := ((Good.begin h []).take ho).announce
   obtain ⟨k1, k2, _⟩ := leads_keep (lastV (announceF { (⟨s, [], []⟩ : Cs) with s := takeF s }).s.views).2 (announceF { (⟨s, [], []⟩ : Cs) with s := takeF s })
   exact g.send k1 k2
  | false =>
   simp only [Bool.false_eq_true, if_false]
   unfold followF
   obtain ⟨k1, k2⟩ := follow_same (List.range (followN s)) (sendF ⟨s, [], []⟩ (seqrF (lastV s.views)) 13 (numsF [s.base, s.log.length]))
   exact (Good.begin h []).send k1 k2
 | false =>
  simp only [Bool.false_eq_true, if_false]
  cases hl : leadB s with
  | true =>
   simp only [if_true]
   by_cases hm : mineB s = true
   ·rw [if_pos hm]
    obtain ⟨k1, k2⟩ := h.install ho hl
    exact ⟨k1, k2, h.st0⟩
   ·rw [if_neg hm]
    have hp : possB s.views (s.self, s.base, s.log) = true := by
     unfold possB
     simp only [Bool.and_eq_true]
     refine ⟨?_, h.based⟩
     split
     ·rfl
     ·next hb =>
      rcases h.known with hk | ⟨v, hk, hv⟩
      ·exact absurd hk hb
      ·rw [hk]
       simp only [Bool.and_eq_true, decide_eq_true_eq]
       refine ⟨?_, hv⟩
       have hin : v ∈ s.views := List.mem_of_find?_eq_some hk
       have hv1 : v.1 = s.base := by have := List.find?_some hk; simpa using this
       obtain ⟨i, hi, rfl⟩ := List.mem_iff_getElem.1 hin
       have n1 := vnum h.vs i hi
       have n2 := vnum h.vs (s.views.length - 1) (by omega)
       rw [vwAt_get hi] at n1
       have ho' : s.base ≠ (lastV s.views).1 := by
        unfold openB at ho; simpa using ho
       unfold lastV at ho' ⊢
       omega
    have h' := h.put (f := (s.self, s.base, s.log)) ho hl h.self hp
    obtain ⟨k1, k2⟩ := h'.install ho hl
    refine ⟨k1, ?_, h.st0⟩
    exact ⟨k2.st, k2.cut, k2.pre⟩
  | false =>
   simp only [Bool.false_eq_true, if_false]
   exact (Good.begin h []).send rfl rfl
theorem closed_submit {s : St} (h : VS s) {p : List UInt8} (he : (submitF s p).2 = 0) : VS (submitF s p).1 ∧ (submitF s p).1.stable = s.stable := by
 unfold submitF at he ⊢
 rw [if_neg (by rw [vs_iff.2 h]; simp)] at he ⊢
 split at he
 ·cases he
 ·next hc =>
  rw [if_neg hc]
  have hlen : p.length ≤ 6000 ∧ s.pend.length ≠ 32 ∧ s.sent ≠ 1099511627776 := by
   refine ⟨?_, ?_, ?_⟩
   ·have := mt Or.inl hc; omega
   ·exact fun e => hc (.inr (.inl e))
   ·exact fun e => hc (.inr (.inr e))
  have hs := h.sent; have hs0 := h.sent0; have hp := h.pl; have hd := h.pd; have ho := h.own
  have h' : VS { s with sent := s.sent + 1, pend := s.pend ++ [p] } := by
   refine ⟨h.self, h.vs, by show 0 ≤ s.sent + 1; omega, by show s.sent + 1 ≤ _; omega, h.based, h.known, by show (ownN s.log s.self : Int) ≤ s.sent + 1; omega, h.st0, h.st, ?_, ?_, ?_, h.mk0, h.fl0, h.mka, h.mks, h.fla, h.fls⟩
   ·simp only [List.length_append, List.length_cons, List.length_nil]; omega
   ·show ((s.pend ++ [p]).length : Int) = s.sent + 1 - ownN (s.log.take s.stable.toNat) s.self
    simp only [List.length_append, List.length_cons, List.length_nil]; omega
   ·intro q hq
    rcases List.mem_append.1 hq with hq | hq
    ·exact h.pp q hq
    ·simp only [List.mem_cons, List.not_mem_nil, or_false] at hq
     subst hq; exact hlen.1
  simp only
  split
  ·next hol =>
   simp only [Bool.and_eq_true] at hol
   have g := (Good.begin h' []).take hol.1
   exact ⟨g.vs, rfl⟩
  ·exact ⟨h', rfl⟩
theorem closed_view {s : St} (h : VS s) {v : Vw} (he : (newViewF s v).2 = 0) : VS (newViewF s v).1 ∧ (newViewF s v).1.stable = s.stable := by
 unfold newViewF at he ⊢
 rw [if_neg (by rw [vs_iff.2 h]; simp)] at he ⊢
 split at he
 ·cases he
 ·next hc =>
  rw [if_neg hc]
  have hv : validVs (s.views ++ [v]) = true := by simpa using hc
  refine ⟨⟨h.self, hv, h.sent0, h.sent, h.based, ?_, h.own, h.st0, h.st, h.pl, h.pd, h.pp, .inl rfl, .inl rfl, ⟨List.Pairwise.nil, fun k hk => absurd hk (by simp)⟩, fun m hm => absurd hm (by simp), ⟨List.Pairwise.nil, fun k hk => absurd hk (by simp)⟩, fun m hm => absurd hm (by simp)⟩, rfl⟩
  rcases h.known with hk | ⟨u, hk, hu⟩
  ·exact .inl hk
  ·refine .inr ⟨u, ?_, hu⟩
   show knownV (s.views ++ [v]) s.base = some u
   unfold knownV at hk ⊢
   rw [List.find?_append, hk]; rfl
end Go.Proofs.YtponbabbabnaeaaGreat
