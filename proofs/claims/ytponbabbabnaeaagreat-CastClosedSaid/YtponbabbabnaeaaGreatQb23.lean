/- Part 23 of the proof: contracts of functions that the statement reaches. Conditions: as each theorem says. -/
import Derived.Test.YtponbabbabnaeaaGreatQb01
import Derived.Test.YtponbabbabnaeaaGreatQb21
import Derived.Test.YtponbabbabnaeaaGreatQb22
namespace Go.Proofs.YtponbabbabnaeaaGreat
open Go.RowKit
theorem fl_cell {w : World} {B g c k : Nat} {l : List FlM} {x : FlM} (h : flE.Own w B (.slice (some ⟨g, 0, none⟩) l.length c) l) (hx : l[k]? = some x) : w.cell? ⟨g, k * 3, none⟩ = some (.int .i64 x.m) := by
 obtain ⟨b, off, h1, h2, h3⟩ := h.row.addr (k := k * 3) (by rw [flE.cells_len]; exact Nat.mul_lt_mul_of_pos_right (List.getElem?_eq_some_iff.1 hx).1 (by decide))
 cases h1
 have := h3 (k * 3) (.int .i64 x.m) (flE.cells_at hx 0 (by decide))
 simpa using this
theorem fl_free {w : World} {B g c k : Nat} {l : List FlM} (h : flE.Own w B (.slice (some ⟨g, 0, none⟩) l.length c) l) (hk : k < l.length) (i : Nat) : w.frozen? ⟨g, i, none⟩ = false := by
 obtain ⟨g', c', hg', _, _, _, _, hfz⟩ := fl_own_some h (by omega)
 cases hg'
 exact hfz i
theorem fl_cells {w : World} {B g c k : Nat} {l : List FlM} {x : FlM} (h : flE.Own w B (.slice (some ⟨g, 0, none⟩) l.length c) l) (hx : l[k]? = some x) : w.cell? ⟨g, k * 3, none⟩ = some (.int .i64 x.m) ∧ w.cell? ⟨g, k * 3 + 1, none⟩ = some (.int .i64 x.b) ∧ w.cell? ⟨g, k * 3 + 2, none⟩ = some (.slice x.A x.log.length x.c) := by
 have hl := (List.getElem?_eq_some_iff.1 hx).1
 have H : ∀ j v, j < 3 → (flE.f x)[j]? = some v → w.cell? ⟨g, k * 3 + j, none⟩ = some v := fun j v hj hv => by
  obtain ⟨b, off, h1, h2, h3⟩ := h.row.addr (k := k * 3 + j) (by rw [flE.cells_len]; show k * 3 + j < l.length * 3; omega)
  cases h1
  have := h3 (k * 3 + j) v ((flE.cells_at hx j hj).trans hv)
  simpa using this
 exact ⟨H 0 _ (by decide) rfl, H 1 _ (by decide) rfl, H 2 _ (by decide) rfl⟩
section
variable {B p : Nat} {cs : List Nat} {col col' : Nat → Nat} {w w' : World} {m : CM}
theorem CS.flput (h : CS w B col p m) (s : Stp B [1, 4] col w col' w') {A : Option Addr} {c : Nat} {l : List FlM} (hb : BIs w' p ({ m with b := { m.b with Af := A, cf := c, fls := l } } : CM).cells 86) (ho : flE.Own w' B (.slice A l.length c) l) (hc : ColV col' 4 (.slice A l.length c))
  (hi : ∀ f ∈ l, f ∈ m.b.fls ∨ (flE.ok f ∧ Row w' f.A (entE.cells f.log) ∧ ColR col' 0 f.A (entE.cells f.log) ∧ f.log.length ≤ 100000 ∧ ∀ e ∈ f.log, e.p.length ≤ 1000000)) (hn : l.length ≤ 100000) :
  CS w' B col' p { m with b := { m.b with Af := A, cf := c, fls := l } } := by
 have hf := h.fits
 refine ⟨hb, (s.hue p h.lt).trans h.pc, h.bp, h.lies.refls s (by simp) (by simp) (by simp) (by simp) ho hc (fun f hfl => ?_), s.own h.pk h.kc (by simp), s.colV h.pk h.kc, h.kiK s (by simp), s.own h.dl h.dc (by simp), s.colV h.dl h.dc, ⟨hf.vs, hf.vx, hf.log, hf.lp, hf.pend, hf.pp, hf.marks, hn, fun f hfl => ?_, hf.cl⟩, h.cp⟩
 ·rcases hi f hfl with h1 | h1
  ·exact h.lies.fiK s (by simp) f h1
  ·exact ⟨h1.1, h1.2.1, h1.2.2.1⟩
 ·rcases hi f hfl with h1 | h1
  ·exact hf.fl f h1
  ·exact h1.2.2.2
theorem fl_good {fm fb : Int} {A : Option Addr} {c : Nat} {l : List Ent} (hok : l.length ≤ c ∧ c ≤ maxLen) (hr : Row w A (entE.cells l)) (hcr : ColR col 0 A (entE.cells l)) (h : CS w B col p m) :
  flE.ok (⟨fm, fb, A, c, l⟩ : FlM) ∧ ∀ r ∈ flE.inn (⟨fm, fb, A, c, l⟩ : FlM), Row w r.1 r.2 ∧ Apt (.slice m.b.Af m.b.fls.length m.b.cf) r := by
 refine ⟨hok, fun r hr' => ?_⟩
 simp only [flE, List.mem_cons, List.not_mem_nil, or_false] at hr'
 subst hr'
 exact ⟨hr, fun p' q hne hp hq e => by have h1 := hcr p' hne hp; have h2 := h.lies.fc q hq; rw [e, h1] at h2; cases h2⟩
end
set_option maxRecDepth 100000 in
set_option maxHeartbeats 1000000 in
theorem putFlush_any (m : CM) (B : Nat) (col : Nat → Nat) (p : Nat) (fm fb : Int) (A : Option Addr) (c : Nat) (l : List Ent) (w : World) (h : CS w B col p m) (hr : Row w A (entE.cells l)) (hl : l.length ≤ 100000) (hlp : ∀ e ∈ l, e.p.length ≤ 1000000) (hn : m.b.fls.length ≤ 50000) :
  Calls Tryz.prog 55 #[.pointer (some ⟨p, 0, none⟩), .agg #[.int .i64 fm, .int .i64 fb, .slice A l.length c]] w (Does B col p w { m.cs with s := { m.cs.s with fls := putF m.cs.s.fls (fm, fb, l) } }) := by
 obtain ⟨⟨self, base, stable, sent, Av, cv, vs, Al, cl, log, Ap, cp, pend, Am, cm, marks, Af, cf, fls⟩, Ak, ck, pk, Ad, cd, dl⟩ := m
 have hpl := h.lt
 have H := hJ h; have HLP := hJ hlp
 simp only at hn
 obtain ⟨_, _, hv, hk1, hk2, _⟩ := h.lies.fls.slice
 simp only [Value.slice.injEq, true_and] at hv
 obtain ⟨hv1, hv2⟩ := hv
 rw [← hv2] at hk1 hk2
 clear hv1 hv2; have E0 : Hid (Ext w (w.alloc (.cells #[.int .i64 fm, .int .i64 fb, .slice A l.length c] 80))) := hJ (Ext.new _ _)
 have B0 : Hid (BIs (w.alloc (.cells #[.int .i64 fm, .int .i64 fb, .slice A l.length c] 80)) w.heap.size #[.int .i64 fm, .int .i64 fb, .slice A l.length c] 80) := hJ (BIs.new _ _ _)
 have HRL : Hid (entE.Box (w.alloc (.cells #[.int .i64 fm, .int .i64 fb, .slice A l.length c] 80)) A l) := hJ (ent_box (hr.ext E0.out))
 have HLW : Hid (∀ k, (Value.slice Af fls.length cf).ownBlock = some k → k < w.heap.size) := hJ (fun k hk => (H.out.lies.fls.lt k hk).2)
 clear h hr hlp; go_enter Tryz.func55, Tryz.ntmps55
 go_wp2_with fail
 refine (clone_ents A c l _ HRL.out (by omega)).mono ?_
 rintro en w1 ⟨A1, c1, rfl, h11, h12, ho1, hx1⟩
 have B1 := hJ (B0.out.ext hx1)
 have b2 : w1.cell? ⟨w.heap.size, 2, none⟩ = some (.slice A l.length c) := B1.out.cell 2
 have f2 := B1.out.free 2
 have E1 := hJ (E0.out.trans hx1)
 have HO1 := hJ ho1.1
 go_upto_region 2 with fail
 have W12 : Hid (Wrote w.heap.size w1 (w1.setCell ⟨w.heap.size, 2, none⟩ (.slice A1 l.length c1))) := hJ (Wrote.set _ _ _ _)
 have E2 : Hid (Ext w (w1.setCell ⟨w.heap.size, 2, none⟩ (.slice A1 l.length c1))) := hJ (W12.out.ext E1.out (Nat.le_refl _))
 have B2 : Hid (BIs (w1.setCell ⟨w.heap.size, 2, none⟩ (.slice A1 l.length c1)) w.heap.size #[.int .i64 fm, .int .i64 fb, .slice A1 l.length c1] 80) := hJ (B1.out.set 2 _)
 have HB1 : Hid (∀ q, (Value.slice A1 l.length c1).ownBlock = some q → w.heap.size + 1 ≤ q) := hJ (fun q hq => by have := (HO1.out.lt q hq).1; simpa using this)
 have R2 : Hid (Row (w1.setCell ⟨w.heap.size, 2, none⟩ (.slice A1 l.length c1)) A1 (entE.cells l)) := hJ (HO1.out.row.wrote (fun q _ hq e => by subst hq; have := HB1.out q.block rfl; omega) W12.out)
 have HC1 : Hid (ColR (paint (paint col w.heap.size 8) (w.heap.size + 1) 0) 0 A1 (entE.cells l)) := hJ (fun q _ hq => by subst hq; exact paint_new (HB1.out q.block rfl))
 have HCOL : Hid (∀ k, k < w.heap.size → (paint (paint col w.heap.size 8) (w.heap.size + 1) 0) k = col k) := hJ (fun k hk => by rw [paint_old (by omega), paint_old hk])
 have C2 : Hid (CS (w1.setCell ⟨w.heap.size, 2, none⟩ (.slice A1 l.length c1)) B (paint (paint col w.heap.size 8) (w.heap.size + 1) 0) p ⟨⟨self, base, stable, sent, Av, cv, vs, Al, cl, log, Ap, cp, pend, Am, cm, marks, Af, cf, fls⟩, Ak, ck, pk, Ad, cd, dl⟩) := hJ (H.out.keep (cs := []) (Stp.ext H.out.Bsz E2.out HCOL.out) (by simp))
 clear hx1 ho1 b2 f2; generalize w1.setCell ⟨w.heap.size, 2, none⟩ (.slice A1 l.length c1) = w2 at *
 have hwl : w.heap.size < w2.heap.size := B2.out.lt
 have hpl2 : p < w2.heap.size := C2.out.lt
 have v0 : w2.cell? ⟨w.heap.size, 0, none⟩ = some (.int .i64 fm) := B2.out.cell 0
 have q8 : w2.cell? ⟨p, 8, none⟩ = some (.slice Af fls.length cf) := C2.out.cell 8
 have HFB : Hid (flE.Box w2 Af fls) := hJ C2.out.lies.reads.fls
 go_wp2; go_loopw [4] (fun i wr => ∃ k : Nat, k ≤ fls.length ∧ i = .int .i64 (k : Int) ∧ Hid (∀ i y, i < k → fls[i]? = some y → y.m < fm) ∧ Hid (Ext w2 wr)) (fun i _ => fls.length - (intOf i).toNat)
 case atStart => exact ⟨0, Nat.zero_le _, rfl, hJ (fun i y hi => absurd hi (Nat.not_lt_zero _)), hJ (Ext.refl _)⟩
 case round =>
  obtain ⟨k, hk, rfl, HK, HE2⟩ := hrel
  have CR := hJ (C2.out.ext HE2.out); have BR := hJ (B2.out.ext HE2.out); have RR := hJ (R2.out.ext HE2.out); have ER := hJ (E2.out.trans HE2.out)
  clear q8 v0; by_cases hlt : k < fls.length
  ·obtain ⟨bb, off, x, hAf, hb, c0, c1', c2', HFR, HX⟩ := fls_at (HFB.out.ext HE2.out) hlt
   obtain ⟨g0, cg, hgv, _, _, hBg, hgs, hfz⟩ := fl_own_some CR.out.lies.fls (by simp only; omega)
   simp only [Value.slice.injEq] at hgv
   obtain ⟨hAg, _, rfl⟩ := hgv
   rw [hAg] at hAf
   simp only [Option.some.injEq, Addr.mk.injEq, and_true] at hAf
   obtain ⟨rfl, rfl⟩ := hAf
   by_cases hx : x.m < fm
   ·have HK' : Hid (∀ i y, i < k + 1 → fls[i]? = some y → y.m < fm) := hJ (fun i y hi hy => by
     rcases Nat.lt_or_ge i k with h1 | h1
     ·exact HK.out i y h1 hy
     ·have : i = k := by omega
      subst this
      rw [HX.out] at hy; cases hy; exact hx)
    have hx1 : decide (x.m < fm) = true := by simpa using hx
    have hAg' := hAg
    subst hAg
    clear hx; have hx2 : Ext w2 wr.drew := HE2.out.trans Ext.drew1
    have HE3 := hJ hx2
    clear hx2; go_upto_region 3 with fail
    refine E_begin 22 (fun w' => w'.cell? ⟨p, 8, none⟩ = some (.slice (some ⟨g0, 0, none⟩) fls.length cf) ∧ w'.cell? ⟨w.heap.size, 0, none⟩ = some (.int .i64 fm) ∧ w'.cell? ⟨g0, k * 3, none⟩ = some (.int .i64 x.m)) (by kernel_rfl) ⟨(CR.out.ext Ext.drew1).cell 8, (BR.out.ext Ext.drew1).cell 0, fl_cell (CR.out.ext Ext.drew1).lies.fls HX.out⟩ (fun hHeld => ?_)
    have hx2 : Ext wr wr.drew := Ext.drew1
    replace CR := hJ (CR.out.ext hx2); replace BR := hJ (BR.out.ext hx2); replace RR := hJ (RR.out.ext hx2); replace ER := hJ (ER.out.trans hx2); clear hx2
    generalize wr.drew = v3 at *
    refine E_t 0 9 ?_; refine E_t 1 10 ?_; refine E_t 2 11 ?_; refine E_t 3 12 ?_; refine E_t 4 13 ?_; refine E_t 5 14 ?_; refine E_t 6 15 ?_; refine E_t 7 16 ?_; refine E_t 8 17 ?_; refine E_t 9 18 ?_; refine E_t 10 19 ?_; refine E_t 11 20 ?_; refine E_t 12 21 ?_; refine E_t 13 22 ?_; refine E_t 14 23 ?_; refine E_t 15 24 ?_; refine E_t 16 25 ?_; refine E_t 17 26 ?_; refine E_t 18 27 ?_; refine E_t 19 28 ?_; refine E_t 20 29 ?_; refine E_t 21 30 ?_; refine E_end (by kernel_rfl) (by rfl) ?_
    clear hHeld; go_wp2; go_roundw
    case rel => exact ⟨k + 1, by omega, by go_num, HK', HE3⟩
    case measure => simp [intOf]; omega
   ·have hx1 : decide (x.m < fm) = false := by simpa using hx
    have HS : Hid (spotF (fls.map FlM.v) fm = k) := hJ (spotF_eq HK.out hk (fun y hy => by rw [HX.out] at hy; cases hy; exact hx))
    subst hAg
    by_cases he : x.m = fm
    ·have hx2 : (x.m == fm) = true := by simpa using he
     have HRES : Hid (putF (fls.map FlM.v) (fm, fb, l) = (fls.set k ⟨fm, fb, A1, c1, l⟩).map FlM.v) := hJ (putF_set (f := ⟨fm, fb, A1, c1, l⟩) HS.out HX.out he)
     clear hx he; go_upto_region 3 with fail
     refine E_begin 22 (fun w' => w'.cell? ⟨p, 8, none⟩ = some (.slice (some ⟨g0, 0, none⟩) fls.length cf) ∧ w'.cell? ⟨w.heap.size, 0, none⟩ = some (.int .i64 fm) ∧ w'.cell? ⟨g0, k * 3, none⟩ = some (.int .i64 x.m)) (by kernel_rfl) ⟨(CR.out.ext Ext.drew1).cell 8, (BR.out.ext Ext.drew1).cell 0, fl_cell (CR.out.ext Ext.drew1).lies.fls HX.out⟩ (fun hHeld => ?_)
     have hx2 : Ext wr wr.drew := Ext.drew1
     replace CR := hJ (CR.out.ext hx2); replace BR := hJ (BR.out.ext hx2); replace RR := hJ (RR.out.ext hx2); replace ER := hJ (ER.out.trans hx2); clear hx2
     generalize wr.drew = v3 at *
     refine E_t 0 9 ?_; refine E_t 1 10 ?_; refine E_t 2 11 ?_; refine E_t 3 12 ?_; refine E_t 4 13 ?_; refine E_t 5 14 ?_; refine E_t 6 15 ?_; refine E_t 7 16 ?_; refine E_t 8 17 ?_; refine E_t 9 18 ?_; refine E_t 10 19 ?_; refine E_t 11 20 ?_; refine E_t 12 21 ?_; refine E_t 13 22 ?_; refine E_t 14 23 ?_; refine E_t 15 24 ?_; refine E_t 16 25 ?_; refine E_t 17 26 ?_; refine E_t 18 27 ?_; refine E_t 19 28 ?_; refine E_t 20 29 ?_; refine E_t 21 30 ?_; refine E_end (by kernel_rfl) (by rfl) ?_
     clear hHeld; go_upto_region 5 with fail
     refine E_begin 22 (fun w' => w'.cell? ⟨p, 8, none⟩ = some (.slice (some ⟨g0, 0, none⟩) fls.length cf) ∧ w'.cell? ⟨w.heap.size, 0, none⟩ = some (.int .i64 fm) ∧ w'.cell? ⟨g0, k * 3, none⟩ = some (.int .i64 x.m)) (by kernel_rfl) ⟨(CR.out.ext Ext.drew1).cell 8, (BR.out.ext Ext.drew1).cell 0, fl_cell (CR.out.ext Ext.drew1).lies.fls HX.out⟩ (fun hHeld => ?_)
     have hx2 : Ext v3 v3.drew := Ext.drew1
     replace CR := hJ (CR.out.ext hx2); replace BR := hJ (BR.out.ext hx2); replace RR := hJ (RR.out.ext hx2); replace ER := hJ (ER.out.trans hx2); clear hx2
     generalize v3.drew = v5 at *
     refine E_t 0 33 ?_; refine E_t 1 34 ?_; refine E_t 2 35 ?_; refine E_t 3 36 ?_; refine E_t 4 37 ?_; refine E_t 5 38 ?_; refine E_t 6 39 ?_; refine E_t 7 40 ?_; refine E_t 8 41 ?_; refine E_t 9 42 ?_; refine E_t 10 43 ?_; refine E_t 11 44 ?_; refine E_t 12 45 ?_; refine E_t 13 46 ?_; refine E_t 14 47 ?_; refine E_t 15 48 ?_; refine E_t 16 49 ?_; refine E_t 17 50 ?_; refine E_t 18 51 ?_; refine E_t 19 52 ?_; refine E_t 20 53 ?_; refine E_t 21 54 ?_; refine E_end (by kernel_rfl) (by rfl) ?_
     clear hHeld; go_upto_region 6 with fail
     obtain ⟨g, rfl⟩ : ∃ x, x = g0 := ⟨_, rfl⟩
     refine E_begin 8 (fun w' => w'.cell? ⟨p, 8, none⟩ = some (.slice (some ⟨g, 0, none⟩) fls.length cf) ∧ w'.cell? ⟨w.heap.size, 0, none⟩ = some (.int .i64 fm) ∧ w'.cell? ⟨w.heap.size, 1, none⟩ = some (.int .i64 fb) ∧ w'.cell? ⟨w.heap.size, 2, none⟩ = some (.slice A1 l.length c1)) (by kernel_rfl) ⟨(CR.out.ext Ext.drew1).cell 8, (BR.out.ext Ext.drew1).cell 0, (BR.out.ext Ext.drew1).cell 1, (BR.out.ext Ext.drew1).cell 2⟩ (fun hHeld => ?_)
     refine E_t 0 55 ?_; refine E_t 1 56 ?_; refine E_t 2 57 ?_; refine E_t 3 58 ?_; refine E_t 4 59 ?_; refine E_t 5 60 ?_; refine E_t 6 61 ?_; refine E_t 7 62 ?_; refine E_tail (by rfl) (by kernel_rfl) ?_
     have fz0 := fl_free CR.out.lies.fls hlt (k * 3); have fz1 := fl_free CR.out.lies.fls hlt (k * 3 + 1); have fz2 := fl_free CR.out.lies.fls hlt (k * 3 + 2)
     obtain ⟨d0, d1, d2⟩ := fl_cells CR.out.lies.fls HX.out
     go_wp2; (try simp only [Exit.inBlock, Exit.then]); refine bodyPost_ret (results_none rfl _ _ _) rfl ?_
     have O3 : flE.Own (((v5.drew.setCell ⟨g, k * 3, none⟩ (.int .i64 fm)).setCell ⟨g, k * 3 + 1, none⟩ (.int .i64 fb)).setCell ⟨g, k * 3 + 2, none⟩ (.slice A1 l.length c1)) B (.slice (some ⟨g, 0, none⟩) (fls.set k ⟨fm, fb, A1, c1, l⟩).length cf) (fls.set k ⟨fm, fb, A1, c1, l⟩) := fls_put ⟨fm, fb, A1, c1, l⟩ (CR.out.ext Ext.drew1).lies.fls HX.out
     have W23 : Wrote g v5.drew (((v5.drew.setCell ⟨g, k * 3, none⟩ (.int .i64 fm)).setCell ⟨g, k * 3 + 1, none⟩ (.int .i64 fb)).setCell ⟨g, k * 3 + 2, none⟩ (.slice A1 l.length c1)) := ((Wrote.set g _ _ _).trans (Wrote.set g _ _ _)).trans (Wrote.set g _ _ _)
     have hcg : (paint (paint col w.heap.size 8) (w.heap.size + 1) 0) g = 4 := CR.out.lies.fc g rfl
     have hgp : g ≠ p := fun e => by have := CR.out.pc; rw [← e, hcg] at this; cases this
     have S3 : Stp B [4] (paint (paint col w.heap.size 8) (w.heap.size + 1) 0) v5 (paint (paint col w.heap.size 8) (w.heap.size + 1) 0) (((v5.drew.setCell ⟨g, k * 3, none⟩ (.int .i64 fm)).setCell ⟨g, k * 3 + 1, none⟩ (.int .i64 fb)).setCell ⟨g, k * 3 + 2, none⟩ (.slice A1 l.length c1)) := (Stp.ext' CR.out.Bsz Ext.drew1).trans (Stp.wrote W23 hBg CR.out.Bsz (by rw [hcg]; simp))
     refine ⟨⟨⟨self, base, stable, sent, Av, cv, vs, Al, cl, log, Ap, cp, pend, Am, cm, marks, (some ⟨g, 0, none⟩), cf, fls.set k ⟨fm, fb, A1, c1, l⟩⟩, Ak, ck, pk, Ad, cd, dl⟩, (paint (paint col w.heap.size 8) (w.heap.size + 1) 0), rfl, ?_, ?_, ?_⟩
     ·refine CS.flput CR.out (S3.mono (by simp)) ?_ O3 (fun q hq => by cases hq; exact hcg) (fun f hf => ?_) (by rw [List.length_set]; omega)
      ·have := W23.bis (CR.out.ext Ext.drew1).box (Ne.symm hgp)
       simp only [CM.cells, List.length_set] at this ⊢
       exact this
      ·rcases List.mem_or_eq_of_mem_set hf with hf | rfl
       ·exact .inl hf
       ·exact .inr ⟨⟨h11, h12⟩, S3.row RR.out HC1.out (by simp), S3.colR RR.out HC1.out, hl, HLP.out⟩
     ·simp only [CM.cs, BM.st]; rw [HRES.out]
     ·exact ((Stp.ext (cs := [4]) H.out.Bsz ER.out HCOL.out).trans S3).mono (cs' := [1, 2, 3, 4, 5, 7]) (by simp)
    ·have hx2 : (x.m == fm) = false := by simpa using he
     have HRES : Hid (putF (fls.map FlM.v) (fm, fb, l) = (fls.take k ++ ⟨fm, fb, A1, c1, l⟩ :: fls.drop k).map FlM.v) := hJ (putF_ins (f := ⟨fm, fb, A1, c1, l⟩) HS.out (fun y hy => by rw [HX.out] at hy; cases hy; exact he))
     clear hx he; go_upto_region 3 with fail
     refine E_begin 22 (fun w' => w'.cell? ⟨p, 8, none⟩ = some (.slice (some ⟨g0, 0, none⟩) fls.length cf) ∧ w'.cell? ⟨w.heap.size, 0, none⟩ = some (.int .i64 fm) ∧ w'.cell? ⟨g0, k * 3, none⟩ = some (.int .i64 x.m)) (by kernel_rfl) ⟨(CR.out.ext Ext.drew1).cell 8, (BR.out.ext Ext.drew1).cell 0, fl_cell (CR.out.ext Ext.drew1).lies.fls HX.out⟩ (fun hHeld => ?_)
     have hx2 : Ext wr wr.drew := Ext.drew1
     replace CR := hJ (CR.out.ext hx2); replace BR := hJ (BR.out.ext hx2); replace RR := hJ (RR.out.ext hx2); replace ER := hJ (ER.out.trans hx2); clear hx2
     generalize wr.drew = v3 at *
     refine E_t 0 9 ?_; refine E_t 1 10 ?_; refine E_t 2 11 ?_; refine E_t 3 12 ?_; refine E_t 4 13 ?_; refine E_t 5 14 ?_; refine E_t 6 15 ?_; refine E_t 7 16 ?_; refine E_t 8 17 ?_; refine E_t 9 18 ?_; refine E_t 10 19 ?_; refine E_t 11 20 ?_; refine E_t 12 21 ?_; refine E_t 13 22 ?_; refine E_t 14 23 ?_; refine E_t 15 24 ?_; refine E_t 16 25 ?_; refine E_t 17 26 ?_; refine E_t 18 27 ?_; refine E_t 19 28 ?_; refine E_t 20 29 ?_; refine E_t 21 30 ?_; refine E_end (by kernel_rfl) (by rfl) ?_
     clear hHeld; go_upto_region 5 with fail
     refine E_begin 22 (fun w' => w'.cell? ⟨p, 8, none⟩ = some (.slice (some ⟨g0, 0, none⟩) fls.length cf) ∧ w'.cell? ⟨w.heap.size, 0, none⟩ = some (.int .i64 fm) ∧ w'.cell? ⟨g0, k * 3, none⟩ = some (.int .i64 x.m)) (by kernel_rfl) ⟨(CR.out.ext Ext.drew1).cell 8, (BR.out.ext Ext.drew1).cell 0, fl_cell (CR.out.ext Ext.drew1).lies.fls HX.out⟩ (fun hHeld => ?_)
     have hx2 : Ext v3 v3.drew := Ext.drew1
     replace CR := hJ (CR.out.ext hx2); replace BR := hJ (BR.out.ext hx2); replace RR := hJ (RR.out.ext hx2); replace ER := hJ (ER.out.trans hx2); clear hx2
     generalize v3.drew = v5 at *
     refine E_t 0 33 ?_; refine E_t 1 34 ?_; refine E_t 2 35 ?_; refine E_t 3 36 ?_; refine E_t 4 37 ?_; refine E_t 5 38 ?_; refine E_t 6 39 ?_; refine E_t 7 40 ?_; refine E_t 8 41 ?_; refine E_t 9 42 ?_; refine E_t 10 43 ?_; refine E_t 11 44 ?_; refine E_t 12 45 ?_; refine E_t 13 46 ?_; refine E_t 14 47 ?_; refine E_t 15 48 ?_; refine E_t 16 49 ?_; refine E_t 17 50 ?_; refine E_t 18 51 ?_; refine E_t 19 52 ?_; refine E_t 20 53 ?_; refine E_t 21 54 ?_; refine E_end (by kernel_rfl) (by rfl) ?_
     clear hHeld; go_upto_region 7 with fail
     refine E_begin 10 (fun w' => w'.cell? ⟨p, 8, none⟩ = some (.slice (some ⟨g0, 0, none⟩) fls.length cf) ∧ w'.cell? ⟨w.heap.size, 0, none⟩ = some (.int .i64 fm) ∧ w'.cell? ⟨w.heap.size, 1, none⟩ = some (.int .i64 fb) ∧ w'.cell? ⟨w.heap.size, 2, none⟩ = some (.slice A1 l.length c1)) (by kernel_rfl) ⟨(CR.out.ext Ext.drew1).cell 8, (BR.out.ext Ext.drew1).cell 0, (BR.out.ext Ext.drew1).cell 1, (BR.out.ext Ext.drew1).cell 2⟩ (fun hHeld => ?_)
     refine E_t 0 63 ?_; refine E_t 1 64 ?_; refine E_t 2 65 ?_; refine E_t 3 66 ?_; refine E_t 4 67 ?_; refine E_t 5 68 ?_; refine E_t 6 69 ?_; refine E_t 7 70 ?_; refine E_ready [8] (by kernel_rfl) (by simp) ?_
     refine AllE.cons (o := ⟨some 71, _, _, _, _, _⟩) rfl (fun K hK => ?_) AllE.nil
     go_simp; have EA : Hid (Ext v5 (v5.alloc (.cells #[.int .i64 fm, .int .i64 fb, .slice A1 l.length c1] 80)).drew) := hJ ((Ext.new _ _).trans Ext.drew1)
     have G3 : Hid (BIs (v5.alloc (.cells #[.int .i64 fm, .int .i64 fb, .slice A1 l.length c1] 80)).drew v5.heap.size (flE.f ⟨fm, fb, A1, c1, l⟩).toArray 80) := hJ ((fl1_row fm fb A1 c1 l v5).ext Ext.drew1)
     have C3 := hJ (CR.out.ext EA.out); have B3 := hJ (BR.out.ext EA.out); have R3 := hJ (RR.out.ext EA.out); have E3 := hJ (ER.out.trans EA.out)
     have HGO : Hid (∀ q, (Value.slice (some ⟨g0, 0, none⟩) fls.length cf).ownBlock = some q → q ≠ v5.heap.size) := hJ (fun q hq => by have h9 : q < v5.heap.size := (CR.out.lies.fls.lt q hq).2; omega)
     generalize (v5.alloc (.cells #[.int .i64 fm, .int .i64 fb, .slice A1 l.length c1] 80)).drew = u3 at *
     generalize v5.heap.size = r_e at *
     clear hHeld; refine hK.out _ _ ⟨C3.out.cell 8, B3.out.cell 0, B3.out.cell 1, B3.out.cell 2⟩ (fun hHeld => ?_)
     clear hK K; try simp only [Act.put, aP1, aP2, aP3]
     refine E_ready [9] (by kernel_rfl) (by simp) ?_
     refine AllE.cons (o := ⟨some 72, _, _, _, _, _⟩) rfl (fun K hK => ?_) AllE.nil
     go_simp; go_at_call 127; refine (insF_any B (some ⟨g0, 0, none⟩) cf fls (⟨fm, fb, A1, c1, l⟩ : FlM) k u3 (by exact C3.out.lies.fls) (by exact C3.out.Bsz) r_e 1 (by exact G3.out) (by exact HGO.out) hlt (by omega)).mono ?_
     rintro en w3 ⟨v3, rfl, ho3, hg3, hs3⟩
     obtain ⟨NL, hNL⟩ : ∃ x, x = fls.take k ++ ⟨fm, fb, A1, c1, l⟩ :: fls.drop k := ⟨_, rfl⟩
     have HNL := hJ hNL
     rw [← hNL] at ho3
     clear hNL; obtain ⟨A3, c3, rfl, h31, h32, _⟩ := ho3.slice
     have HO3 := hJ ho3
     have S3 : Hid (Stp B [4] (paint (paint col w.heap.size 8) (w.heap.size + 1) 0) u3 (paint (paint (paint col w.heap.size 8) (w.heap.size + 1) 0) u3.heap.size 4) w3) := hJ ((Stp.grew hg3 C3.out.Bsz (fun q hq => (C3.out.lies.fls.lt q hq).1) C3.out.lies.fc (by simp)).recol (fun k hk => paint_old hk))
     have HCV : Hid (ColV (paint (paint (paint col w.heap.size 8) (w.heap.size + 1) 0) u3.heap.size 4) 4 (.slice A3 NL.length c3)) := hJ (colV_stems hs3 C3.out.lies.fc (Nat.le_refl _) (fun q hq => (C3.out.lies.fls.lt q hq).2))
     have BX3 : Hid (BIs w3 p (⟨⟨self, base, stable, sent, Av, cv, vs, Al, cl, log, Ap, cp, pend, Am, cm, marks, (some ⟨g0, 0, none⟩), cf, fls⟩, Ak, ck, pk, Ad, cd, dl⟩ : CM).cells 86) := hJ (S3.out.bis C3.out.box (by rw [C3.out.pc]; simp))
     have B4 : Hid (BIs w3 w.heap.size #[.int .i64 fm, .int .i64 fb, .slice A1 l.length c1] 80) := hJ (B3.out.same (hg3.block _ B3.out.lt (fun e => by have h2 := HLW.out _ e.symm; omega)))
     clear ho3 hg3 hs3; clear hHeld; refine hK.out _ _ ⟨BX3.out.cell 8, B4.out.cell 0, B4.out.cell 1, B4.out.cell 2⟩ (fun hHeld => ?_)
     clear hK K; try simp only [Act.put, aP1, aP2, aP3]
     refine E_tail (by rfl) (by kernel_rfl) ?_
     have q8' : w3.cell? ⟨p, 8, none⟩ = some (.slice (some ⟨g0, 0, none⟩) fls.length cf) := BX3.out.cell 8
     have f8 := BX3.out.free 8
     go_wp2; go_end0; have hpc3 : (paint (paint (paint col w.heap.size 8) (w.heap.size + 1) 0) u3.heap.size 4) p = 1 := (S3.out.hue p C3.out.lt).trans C3.out.pc
     have S4 : Stp B [1, 4] (paint (paint (paint col w.heap.size 8) (w.heap.size + 1) 0) u3.heap.size 4) w3 (paint (paint (paint col w.heap.size 8) (w.heap.size + 1) 0) u3.heap.size 4) (w3.setCell ⟨p, 8, none⟩ (.slice A3 NL.length c3)) := Stp.wrote (Wrote.set _ _ _ _) H.out.bp (Nat.le_trans C3.out.Bsz S3.out.size) (by rw [hpc3]; simp)
     have S34 := (S3.out.mono (cs' := [1, 4]) (by simp)).trans S4
     refine ⟨⟨⟨self, base, stable, sent, Av, cv, vs, Al, cl, log, Ap, cp, pend, Am, cm, marks, A3, c3, NL⟩, Ak, ck, pk, Ad, cd, dl⟩, paint (paint (paint col w.heap.size 8) (w.heap.size + 1) 0) u3.heap.size 4, rfl, ?_, ?_, ?_⟩
     ·refine CS.flput C3.out S34 (BX3.out.set 8 _) (HO3.out.keep fun q hq hlt => (Wrote.set p 8 w3 _).blk hlt (fun e => by subst e; have := HCV.out q hq; rw [hpc3] at this; cases this)) HCV.out (fun f hf => ?_) (by rw [HNL.out]; simp; omega)
      rw [HNL.out] at hf
      have hf' : f ∈ fls ∨ f = ⟨fm, fb, A1, c1, l⟩ := by rcases mem_put hf with hf | hf; exact .inr hf; exact .inl hf
      rcases hf' with hf | rfl
      ·exact .inl hf
      ·exact .inr ⟨⟨h11, h12⟩, S34.row R3.out HC1.out (by simp), S34.colR R3.out HC1.out, hl, HLP.out⟩
     ·simp only [CM.cs, BM.st]; rw [HRES.out, HNL.out]
     ·exact ((Stp.ext (cs := [1, 4]) H.out.Bsz E3.out HCOL.out).trans S34).mono (cs' := [1, 2, 3, 4, 5, 7]) (by simp)
  ·have hkl : k = fls.length := by omega
   have HS : Hid (spotF (fls.map FlM.v) fm = k) := hJ (spotF_eq HK.out hk (fun y hy => by rw [List.getElem?_eq_none (by omega)] at hy; cases hy))
   have HRES : Hid (putF (fls.map FlM.v) (fm, fb, l) = (fls.take k ++ ⟨fm, fb, A1, c1, l⟩ :: fls.drop k).map FlM.v) := hJ (putF_ins (f := ⟨fm, fb, A1, c1, l⟩) HS.out (fun y hy => by rw [List.getElem?_eq_none (by omega)] at hy; cases hy))
   subst hkl
   go_upto_region 3 with fail
   refine E_begin 22 (fun w' => w'.cell? ⟨p, 8, none⟩ = some (.slice Af fls.length cf) ∧ w'.cell? ⟨w.heap.size, 0, none⟩ = some (.int .i64 fm)) (by kernel_rfl) ⟨(CR.out.ext Ext.drew1).cell 8, (BR.out.ext Ext.drew1).cell 0⟩ (fun hHeld => ?_)
   have hx2 : Ext wr wr.drew := Ext.drew1
   replace CR := hJ (CR.out.ext hx2); replace BR := hJ (BR.out.ext hx2); replace RR := hJ (RR.out.ext hx2); replace ER := hJ (ER.out.trans hx2); clear hx2
   generalize wr.drew = v3 at *
   refine E_t 0 9 ?_; refine E_t 1 10 ?_; refine E_t 2 11 ?_; refine E_t 3 12 ?_; refine E_t 4 13 ?_; refine E_t 5 14 ?_; refine E_t 6 15 ?_; refine E_t 7 16 ?_; refine E_t 8 17 ?_; refine E_s 9 18 ?_; refine E_s 10 19 ?_; refine E_s 11 20 ?_; refine E_s 12 21 ?_; refine E_s 13 22 ?_; refine E_s 14 23 ?_; refine E_s 15 24 ?_; refine E_s 16 25 ?_; refine E_s 17 26 ?_; refine E_s 18 27 ?_; refine E_s 19 28 ?_; refine E_s 20 29 ?_; refine E_t 21 30 ?_; refine E_end (by kernel_rfl) (by rfl) ?_
   clear hHeld; go_upto_region 5 with fail
   refine E_begin 22 (fun w' => w'.cell? ⟨p, 8, none⟩ = some (.slice Af fls.length cf) ∧ w'.cell? ⟨w.heap.size, 0, none⟩ = some (.int .i64 fm)) (by kernel_rfl) ⟨(CR.out.ext Ext.drew1).cell 8, (BR.out.ext Ext.drew1).cell 0⟩ (fun hHeld => ?_)
   have hx2 : Ext v3 v3.drew := Ext.drew1
   replace CR := hJ (CR.out.ext hx2); replace BR := hJ (BR.out.ext hx2); replace RR := hJ (RR.out.ext hx2); replace ER := hJ (ER.out.trans hx2); clear hx2
   generalize v3.drew = v5 at *
   refine E_t 0 33 ?_; refine E_t 1 34 ?_; refine E_t 2 35 ?_; refine E_t 3 36 ?_; refine E_t 4 37 ?_; refine E_t 5 38 ?_; refine E_t 6 39 ?_; refine E_t 7 40 ?_; refine E_t 8 41 ?_; refine E_s 9 42 ?_; refine E_s 10 43 ?_; refine E_s 11 44 ?_; refine E_s 12 45 ?_; refine E_s 13 46 ?_; refine E_s 14 47 ?_; refine E_s 15 48 ?_; refine E_s 16 49 ?_; refine E_s 17 50 ?_; refine E_s 18 51 ?_; refine E_s 19 52 ?_; refine E_s 20 53 ?_; refine E_t 21 54 ?_; refine E_end (by kernel_rfl) (by rfl) ?_
   clear hHeld; go_upto_region 7 with fail
   refine E_begin 10 (fun w' => w'.cell? ⟨p, 8, none⟩ = some (.slice Af fls.length cf) ∧ w'.cell? ⟨w.heap.size, 0, none⟩ = some (.int .i64 fm) ∧ w'.cell? ⟨w.heap.size, 1, none⟩ = some (.int .i64 fb) ∧ w'.cell? ⟨w.heap.size, 2, none⟩ = some (.slice A1 l.length c1)) (by kernel_rfl) ⟨(CR.out.ext Ext.drew1).cell 8, (BR.out.ext Ext.drew1).cell 0, (BR.out.ext Ext.drew1).cell 1, (BR.out.ext Ext.drew1).cell 2⟩ (fun hHeld => ?_)
   refine E_t 0 63 ?_; refine E_t 1 64 ?_; refine E_t 2 65 ?_; refine E_t 3 66 ?_; refine E_t 4 67 ?_; refine E_t 5 68 ?_; refine E_t 6 69 ?_; refine E_t 7 70 ?_; refine E_ready [8] (by kernel_rfl) (by simp) ?_
   refine AllE.cons (o := ⟨some 71, _, _, _, _, _⟩) rfl (fun K hK => ?_) AllE.nil
   go_simp; have EA : Hid (Ext v5 (v5.alloc (.cells #[.int .i64 fm, .int .i64 fb, .slice A1 l.length c1] 80)).drew) := hJ ((Ext.new _ _).trans Ext.drew1)
   have G3 : Hid (BIs (v5.alloc (.cells #[.int .i64 fm, .int .i64 fb, .slice A1 l.length c1] 80)).drew v5.heap.size (flE.f ⟨fm, fb, A1, c1, l⟩).toArray 80) := hJ ((fl1_row fm fb A1 c1 l v5).ext Ext.drew1)
   have C3 := hJ (CR.out.ext EA.out); have B3 := hJ (BR.out.ext EA.out); have R3 := hJ (RR.out.ext EA.out); have E3 := hJ (ER.out.trans EA.out)
   have HGO : Hid (∀ q, (Value.slice Af fls.length cf).ownBlock = some q → q ≠ v5.heap.size) := hJ (fun q hq => by have h9 : q < v5.heap.size := (CR.out.lies.fls.lt q hq).2; omega)
   generalize (v5.alloc (.cells #[.int .i64 fm, .int .i64 fb, .slice A1 l.length c1] 80)).drew = u3 at *
   generalize v5.heap.size = r_e at *
   clear hHeld; refine hK.out _ _ ⟨C3.out.cell 8, B3.out.cell 0, B3.out.cell 1, B3.out.cell 2⟩ (fun hHeld => ?_)
   clear hK K; try simp only [Act.put, aP1, aP2, aP3]
   refine E_ready [9] (by kernel_rfl) (by simp) ?_
   refine AllE.cons (o := ⟨some 72, _, _, _, _, _⟩) rfl (fun K hK => ?_) AllE.nil
   go_simp; go_at_call 127; have HXG : Hid (flE.ok (⟨fm, fb, A1, c1, l⟩ : FlM) ∧ ∀ r ∈ flE.inn (⟨fm, fb, A1, c1, l⟩ : FlM), Row u3 r.1 r.2 ∧ Apt (.slice Af fls.length cf) r) := hJ (fl_good ⟨h11, h12⟩ R3.out HC1.out C3.out)
   refine (insF_end B Af cf fls (⟨fm, fb, A1, c1, l⟩ : FlM) u3 (by exact C3.out.fl_ob) (by exact C3.out.Bsz) r_e 1 (by exact bis_row G3.out) (by exact HXG.out) (by omega) ⟨hk1, hk2⟩).mono ?_
   rintro en w3 ⟨v3, rfl, ho3, hg3, hs3⟩
   obtain ⟨NL, hNL⟩ : ∃ x, x = fls ++ [⟨fm, fb, A1, c1, l⟩] := ⟨_, rfl⟩
   have HNL := hJ hNL
   rw [← hNL] at ho3
   clear hNL; obtain ⟨A3, c3, rfl, h31, h32, _⟩ := ho3.slice
   have HO3 := hJ ho3
   have S3 : Hid (Stp B [4] (paint (paint col w.heap.size 8) (w.heap.size + 1) 0) u3 (paint (paint (paint col w.heap.size 8) (w.heap.size + 1) 0) u3.heap.size 4) w3) := hJ ((Stp.grew hg3 C3.out.Bsz (fun q hq => (C3.out.lies.fls.lt q hq).1) C3.out.lies.fc (by simp)).recol (fun k hk => paint_old hk))
   have HCV : Hid (ColV (paint (paint (paint col w.heap.size 8) (w.heap.size + 1) 0) u3.heap.size 4) 4 (.slice A3 NL.length c3)) := hJ (colV_stems hs3 C3.out.lies.fc (Nat.le_refl _) (fun q hq => (C3.out.lies.fls.lt q hq).2))
   have BX3 : Hid (BIs w3 p (⟨⟨self, base, stable, sent, Av, cv, vs, Al, cl, log, Ap, cp, pend, Am, cm, marks, Af, cf, fls⟩, Ak, ck, pk, Ad, cd, dl⟩ : CM).cells 86) := hJ (S3.out.bis C3.out.box (by rw [C3.out.pc]; simp))
   have B4 : Hid (BIs w3 w.heap.size #[.int .i64 fm, .int .i64 fb, .slice A1 l.length c1] 80) := hJ (B3.out.same (hg3.block _ B3.out.lt (fun e => by have h2 := HLW.out _ e.symm; omega)))
   clear ho3 hg3 hs3; clear hHeld; refine hK.out _ _ ⟨BX3.out.cell 8, B4.out.cell 0, B4.out.cell 1, B4.out.cell 2⟩ (fun hHeld => ?_)
   clear hK K; try simp only [Act.put, aP1, aP2, aP3]
   refine E_tail (by rfl) (by kernel_rfl) ?_
   have q8' : w3.cell? ⟨p, 8, none⟩ = some (.slice Af fls.length cf) := BX3.out.cell 8
   have f8 := BX3.out.free 8
   go_wp2; go_end0; have hpc3 : (paint (paint (paint col w.heap.size 8) (w.heap.size + 1) 0) u3.heap.size 4) p = 1 := (S3.out.hue p C3.out.lt).trans C3.out.pc
   have S4 : Stp B [1, 4] (paint (paint (paint col w.heap.size 8) (w.heap.size + 1) 0) u3.heap.size 4) w3 (paint (paint (paint col w.heap.size 8) (w.heap.size + 1) 0) u3.heap.size 4) (w3.setCell ⟨p, 8, none⟩ (.slice A3 NL.length c3)) := Stp.wrote (Wrote.set _ _ _ _) H.out.bp (Nat.le_trans C3.out.Bsz S3.out.size) (by rw [hpc3]; simp)
   have S34 := (S3.out.mono (cs' := [1, 4]) (by simp)).trans S4
   refine ⟨⟨⟨self, base, stable, sent, Av, cv, vs, Al, cl, log, Ap, cp, pend, Am, cm, marks, A3, c3, NL⟩, Ak, ck, pk, Ad, cd, dl⟩, paint (paint (paint col w.heap.size 8) (w.heap.size + 1) 0) u3.heap.size 4, rfl, ?_, ?_, ?_⟩
   ·refine CS.flput C3.out S34 (BX3.out.set 8 _) (HO3.out.keep fun q hq hlt => (Wrote.set p 8 w3 _).blk hlt (fun e => by subst e; have := HCV.out q hq; rw [hpc3] at this; cases this)) HCV.out (fun f hf => ?_) (by rw [HNL.out]; simp; omega)
    rw [HNL.out] at hf
    have hf' : f ∈ fls ∨ f = ⟨fm, fb, A1, c1, l⟩ := by rcases List.mem_append.1 hf with hf | hf; exact .inl hf; exact .inr (by simpa using hf)
    rcases hf' with hf | rfl
    ·exact .inl hf
    ·exact .inr ⟨⟨h11, h12⟩, S34.row R3.out HC1.out (by simp), S34.colR R3.out HC1.out, hl, HLP.out⟩
   ·simp only [CM.cs, BM.st]; rw [HRES.out, HNL.out]; simp only [List.take_length, List.drop_length]
   ·exact ((Stp.ext (cs := [1, 4]) H.out.Bsz E3.out HCOL.out).trans S34).mono (cs' := [1, 2, 3, 4, 5, 7]) (by simp)
end Go.Proofs.YtponbabbabnaeaaGreat
