/- Part 23 of the proof: contracts of functions that the statement reaches. Conditions: as each theorem says. -/
import Derived.Test.YtponbabbabnaeaaGreatQa17
import Derived.Test.YtponbabbabnaeaaGreatQa22
namespace Go.Proofs.YtponbabbabnaeaaGreat
open Go.RowKit
theorem mark_own_some {w : World} {B : Nat} {v : Value} {l : List (Int × Int)} (h : markE.Own w B v l) (hl : 0 < l.length) : ∃ g c, v = .slice (some ⟨g, 0, none⟩) l.length c ∧ l.length ≤ c ∧ c ≤ maxLen ∧ B ≤ g ∧ g < w.heap.size ∧ ∀ i, w.frozen? ⟨g, i, none⟩ = false := by
  have h' := h
  obtain ⟨_, h2⟩ := h
  rcases h2 with ⟨_, h3⟩ | ⟨g, cap, cur, hv, h3, hh, h4, h5, h6, h7⟩
  · omega
  · subst hv
    exact ⟨g, cap, rfl, h4, h5, h3, (h'.lt g rfl).2, fun i => (show BIs w g cur _ from hh).free i⟩
theorem spotM_end {l : List (Int × Int)} {fr : Int} (h : ∀ x ∈ l, x.1 < fr) : spotM l fr = l.length := by
  unfold spotM
  induction l with
  | nil => rfl
  | cons x l ih =>
    have h1 : decide (x.1 < fr) = true := by simpa using h x (by simp)
    rw [List.takeWhile_cons, h1]
    simp only [if_true, List.length_cons]
    rw [ih (fun y hy => h y (by simp [hy]))]
theorem ackM_end {l : List (Int × Int)} {fr n : Int} (h : ∀ x ∈ l, x.1 < fr) : ackM l fr n = l ++ [(fr, max 0 n)] := by
  unfold ackM
  rw [spotM_end h, List.getElem?_eq_none (Nat.le_refl _)]
theorem ok_remark {s : St} (h : OkS s) {fr n : Int} (hn : ¬ (s.log.length : Int) < n) : OkS { s with marks := s.marks ++ [(fr, max 0 n)] } := by
  refine ⟨h.vs, h.st0, h.st1, h.own, h.sent, h.pend, h.pn, h.log, h.lp, h.pp, fun y hy => ?_, h.mem⟩
  rcases List.mem_append.1 hy with hy | hy
  · exact h.mks y hy
  · simp only [List.mem_cons, List.not_mem_nil, or_false] at hy
    subst hy
    simp only
    omega
set_option maxRecDepth 100000 in
set_option maxHeartbeats 1000000 in
theorem acked_end (m : CM) (B : Nat) (col : Nat → Nat) (p : Nat) (fr n : Int) (w : World) (h : CS w B col p m) (ok : OkS m.b.st) (hsp : ∀ x ∈ m.b.marks, x.1 < fr) (hdl : m.dl.length ≤ 100000) (hmn : m.b.marks.length ≤ 1000) :
    Calls Tryz.prog 144 #[.pointer (some ⟨p, 0, none⟩), .int .i64 fr, .int .i64 n] w (Does B col p w (ackedF m.cs fr n)) := by
  have H := Lib.hid h; have OK := Lib.hid ok; have HSP := Lib.hid hsp
  have hpl := h.lt
  have q3 := h.cell 3; have q7 := h.cell 7; have fz7 := h.free 7
  have hfl := h.fits.log
  obtain ⟨Am', cm', hv, hk1, hk2, _⟩ := mark_own_parts h.lies.marks
  simp only [Value.slice.injEq, true_and] at hv
  obtain ⟨hAm, hcm⟩ := hv
  rw [← hcm] at hk1 hk2
  clear h ok hsp hcm hAm
  obtain ⟨M, hM⟩ : ∃ x, x = m := ⟨_, rfl⟩
  have HM := Lib.hid hM
  rw [← hM] at H OK ⊢
  clear hM
  obtain ⟨⟨self, base, stable, sent, Av, cv, vs, Al, cl, log, Ap, cp, pend, Am, cm, marks, Af, cf, fls⟩, Ak, ck, pk, Ad, cd, dl⟩ := m
  simp only at hk1 hk2 hfl hdl hmn HSP
  replace q3 : w.cell? ⟨p, 3, none⟩ = some (.slice Al log.length cl) := q3
  replace q7 : w.cell? ⟨p, 7, none⟩ = some (.slice Am marks.length cm) := q7
  by_cases hn : (log.length : Int) < n
  · have HR : Hid (ackedF M.cs fr n = M.cs) := Lib.hid (by unfold ackedF; rw [HM.out]; exact if_pos hn)
    have hd : decide ((log.length : Int) < n) = true := by simpa using hn
    clear hn
    go_enter Tryz.func144, Tryz.ntmps144
    go_wp2
    (try simp only [Exit.inBlock, Exit.then]); refine bodyPost_ret (results_none rfl _ _ _) rfl ?_
    rw [HR.out]
    exact ⟨M, col, rfl, H.out, rfl, Stp.refl _ _ _ _⟩
  · have hd : decide ((log.length : Int) < n) = false := by simpa using hn
    have HR : Hid (ackedF M.cs fr n = announceF { M.cs with s := { M.cs.s with marks := marks ++ [(fr, max 0 n)] } }) := Lib.hid (by
      unfold ackedF; rw [HM.out]; refine (if_neg hn).trans ?_; simp only [CM.cs, BM.st]; rw [ackM_end HSP.out])
    have HN := Lib.hid hn
    clear hn
    have HMR : Hid (Row w Am (markE.cells marks)) := Lib.hid (by have := H.out.lies.marks.row; rw [HM.out] at this; exact this)
    have HMO : Hid (markE.Own w B (.slice Am marks.length cm) marks) := Lib.hid (by have := H.out.lies.marks; rw [HM.out] at this; exact this)
    have HMC : Hid (ColV col 3 (.slice Am marks.length cm)) := Lib.hid (by have := H.out.lies.mc; rw [HM.out] at this; exact this)
    have E0 : Hid (Ext w (w.alloc (.cells #[.int .i64 fr, .int .i64 0] 123))) := Lib.hid (Ext.new _ _)
    go_enter Tryz.func144, Tryz.ntmps144
    go_wp2
    go_loopw [6] (fun i wr => ∃ k : Nat, k ≤ marks.length ∧ i = .int .i64 (k : Int) ∧ w = wr) (fun i _ => marks.length - (intOf i).toNat)
    case atStart => exact ⟨0, Nat.zero_le _, rfl, rfl⟩
    case round =>
      obtain ⟨k, hk, rfl, rfl⟩ := hrel
      by_cases hlt : k < marks.length
      · obtain ⟨b, off, x, rfl, hb, c0, c1, HX⟩ := marks_at HMR.out hlt
        have hx1 : decide (x.1 < fr) = true := by have := HSP.out x (List.mem_of_getElem? HX.out); simpa using this
        go_wp2
        go_roundw
        case rel => exact ⟨k + 1, by omega, by go_num, by first | trivial | rfl⟩
        case measure => simp [intOf]; omega
      · have hkl : k = marks.length := by omega
        subst hkl
        go_wp2_with fail
        refine (insert_end B Am cm marks (fr, 0) _ (HMO.out.ext E0.out) (Nat.le_trans H.out.Bsz E0.out.size) w.heap.size 1 (mark1_row fr 0 w) (by omega) ⟨hk1, hk2⟩).mono ?_
        rintro en w2 ⟨v2, rfl, ho2, hg2, hs2⟩
        obtain ⟨MK, hMK⟩ : ∃ l, l = marks ++ [(fr, (0 : Int))] := ⟨_, rfl⟩
        rw [← hMK] at ho2
        have HMK := Lib.hid hMK
        have hml : Hid (MK.length = marks.length + 1) := Lib.hid (by rw [hMK]; simp)
        have hml' : marks.length < MK.length := by rw [hml.out]; omega
        have hml2 : MK.length ≤ 1001 := by rw [hml.out]; omega
        have hmx : Hid (MK[marks.length]? = some (fr, 0)) := Lib.hid (by rw [hMK]; simp)
        clear hMK
        obtain ⟨g, c2, rfl, h21, h22, hBg, hgs, hfz⟩ := mark_own_some ho2 (by omega)
        have HFZ := Lib.hid hfz
        have HO2 := Lib.hid ho2
        have HCV : Hid (ColV (paint col w.heap.size 3) 3 (.slice (some ⟨g, 0, none⟩) MK.length c2)) := Lib.hid (colV_stems hs2 HMC.out E0.out.size (fun q hq => (HMO.out.lt q hq).2))
        have S2 : Hid (Stp B [3] col w (paint col w.heap.size 3) w2) := Lib.hid ((Stp.ext (cs := [3]) H.out.Bsz E0.out (fun k hk => paint_old hk)).trans (Stp.grew hg2 (Nat.le_trans H.out.Bsz E0.out.size) (fun k hk => (HMO.out.lt k hk).1) (c := 3) (HMC.out.old HMO.out (fun k hk => paint_old hk)) (by simp)))
        have hpc : Hid ((paint col w.heap.size 3) p = 1) := Lib.hid (by rw [paint_old H.out.lt]; exact H.out.pc)
        have hgp : g ≠ p := fun e => by have := HCV.out g rfl; rw [e, hpc.out] at this; cases this
        have BX2 : Hid (BIs w2 p (⟨⟨self, base, stable, sent, Av, cv, vs, Al, cl, log, Ap, cp, pend, Am, cm, marks, Af, cf, fls⟩, Ak, ck, pk, Ad, cd, dl⟩ : CM).cells 86) := Lib.hid (by have := S2.out.bis H.out.box (by rw [H.out.pc]; simp); rw [HM.out] at this; exact this)
        have k7 : w2.cell? ⟨p, 7, none⟩ = some (.slice Am marks.length cm) := BX2.out.cell 7
        have fz2 := BX2.out.free 7
        have hpl2 : p < w2.heap.size := BX2.out.lt
        clear ho2 hg2 hs2 hfz q3 q7 fz7 hd
        go_wp2
        have W23 : Hid (Wrote p w2 (w2.setCell ⟨p, 7, none⟩ (.slice (some ⟨g, 0, none⟩) MK.length c2))) := Lib.hid (Wrote.set _ _ _ _)
        have BX3 : Hid (BIs (w2.setCell ⟨p, 7, none⟩ (.slice (some ⟨g, 0, none⟩) MK.length c2)) p (⟨⟨self, base, stable, sent, Av, cv, vs, Al, cl, log, Ap, cp, pend, (some ⟨g, 0, none⟩), c2, MK, Af, cf, fls⟩, Ak, ck, pk, Ad, cd, dl⟩ : CM).cells 86) := Lib.hid (BX2.out.set 7 _)
        have HO3 : Hid (markE.Own (w2.setCell ⟨p, 7, none⟩ (.slice (some ⟨g, 0, none⟩) MK.length c2)) B (.slice (some ⟨g, 0, none⟩) MK.length c2) MK) := Lib.hid (HO2.out.set_other (fun k hk => by cases hk; exact hgp) _)
        clear k7 fz2
        generalize w2.setCell ⟨p, 7, none⟩ (.slice (some ⟨g, 0, none⟩) MK.length c2) = w3 at *
        have r7 : w3.cell? ⟨p, 7, none⟩ = some (.slice (some ⟨g, 0, none⟩) MK.length c2) := BX3.out.cell 7
        have rg : w3.cell? ⟨g, marks.length * 2 + 1, none⟩ = some (.int .i64 0) := by
          obtain ⟨b, off, x, hA, hb, c0, c1, HX⟩ := marks_at HO3.out.row hml'
          cases hA
          rw [hmx.out] at HX
          have := HX.out; cases this
          simpa using c1
        obtain ⟨g', c', hg', _, _, _, hgs3, hfz3⟩ := mark_own_some HO3.out (by omega)
        cases hg'
        have fzg := hfz3 (marks.length * 2 + 1)
        clear hfz3
        have S3 : Hid (Stp B [1, 3] col w (paint col w.heap.size 3) w3) := Lib.hid ((S2.out.mono (by simp)).trans (Stp.wrote W23.out H.out.bp (Nat.le_trans H.out.Bsz S2.out.size) (by rw [hpc.out]; simp)))
        go_wp2
        refine E_begin 17 (fun w' => w'.cell? ⟨p, 7, none⟩ = some (.slice (some ⟨g, 0, none⟩) MK.length c2) ∧ w'.cell? ⟨g, marks.length * 2 + 1, none⟩ = some (.int .i64 0)) (by kernel_rfl) ⟨r7, rg⟩ (fun hHeld => ?_)
        refine E_tk 0 (oi := ⟨some 73, _, _, _, _, _⟩) (v := ?_) ?_ ?_
        rotate_left
        · (intro w9 hSw; (try dsimp only at hSw); go_simp <;> with_reducible rfl)
        try simp only [Act.put, l1, l2, l3]
        refine E_tk 1 (oi := ⟨some 74, _, _, _, _, _⟩) (v := ?_) ?_ ?_
        rotate_left
        · (intro w9 hSw; (try dsimp only at hSw); go_simp <;> with_reducible rfl)
        try simp only [Act.put, l1, l2, l3]
        refine E_tk 2 (oi := ⟨some 75, _, _, _, _, _⟩) (v := ?_) ?_ ?_
        rotate_left
        · (intro w9 hSw; (try dsimp only at hSw); go_simp <;> with_reducible rfl)
        try simp only [Act.put, l1, l2, l3]
        refine E_tk 3 (oi := ⟨some 76, _, _, _, _, _⟩) (v := ?_) ?_ ?_
        rotate_left
        · (intro w9 hSw; (try dsimp only at hSw); go_simp <;> with_reducible rfl)
        try simp only [Act.put, l1, l2, l3]
        refine E_tk 4 (oi := ⟨some 77, _, _, _, _, _⟩) (v := ?_) ?_ ?_
        rotate_left
        · (intro w9 hSw; (try dsimp only at hSw); go_simp <;> with_reducible rfl)
        try simp only [Act.put, l1, l2, l3]
        refine E_tk 5 (oi := ⟨some 78, _, _, _, _, _⟩) (v := ?_) ?_ ?_
        rotate_left
        · (intro w9 hSw; (try dsimp only at hSw); go_simp <;> with_reducible rfl)
        try simp only [Act.put, l1, l2, l3]
        refine E_tk 6 (oi := ⟨some 79, _, _, _, _, _⟩) (v := ?_) ?_ ?_
        rotate_left
        · (intro w9 hSw; (try dsimp only at hSw); go_simp <;> with_reducible rfl)
        try simp only [Act.put, l1, l2, l3]
        refine E_tk 7 (oi := ⟨some 80, _, _, _, _, _⟩) (v := ?_) ?_ ?_
        rotate_left
        · (intro w9 hSw; (try dsimp only at hSw); go_simp <;> with_reducible rfl)
        try simp only [Act.put, l1, l2, l3]
        refine E_tk 8 (oi := ⟨some 81, _, _, _, _, _⟩) (v := ?_) ?_ ?_
        rotate_left
        · (intro w9 hSw; (try dsimp only at hSw); go_simp <;> with_reducible rfl)
        try simp only [Act.put, l1, l2, l3]
        refine E_tk 9 (oi := ⟨some 82, _, _, _, _, _⟩) (v := ?_) ?_ ?_
        rotate_left
        · (intro w9 hSw; (try dsimp only at hSw); go_simp <;> with_reducible rfl)
        try simp only [Act.put, l1, l2, l3]
        refine E_tk 10 (oi := ⟨some 83, _, _, _, _, _⟩) (v := ?_) ?_ ?_
        rotate_left
        · (intro w9 hSw; (try dsimp only at hSw); go_simp <;> with_reducible rfl)
        try simp only [Act.put, l1, l2, l3]
        refine E_tk 11 (oi := ⟨some 84, _, _, _, _, _⟩) (v := ?_) ?_ ?_
        rotate_left
        · (intro w9 hSw; (try dsimp only at hSw); go_simp <;> with_reducible rfl)
        try simp only [Act.put, l1, l2, l3]
        refine E_tk 12 (oi := ⟨some 85, _, _, _, _, _⟩) (v := ?_) ?_ ?_
        rotate_left
        · (intro w9 hSw; (try dsimp only at hSw); go_simp <;> with_reducible rfl)
        try simp only [Act.put, l1, l2, l3]
        refine E_tk 13 (oi := ⟨some 86, _, _, _, _, _⟩) (v := ?_) ?_ ?_
        rotate_left
        · (intro w9 hSw; (try dsimp only at hSw); go_simp <;> with_reducible rfl)
        try simp only [Act.put, l1, l2, l3]
        refine E_tk 14 (oi := ⟨some 87, _, _, _, _, _⟩) (v := ?_) ?_ ?_
        rotate_left
        · (intro w9 hSw; (try dsimp only at hSw); go_simp <;> with_reducible rfl)
        try simp only [Act.put, l1, l2, l3]
        refine E_tk 15 (oi := ⟨some 88, _, _, _, _, _⟩) (v := ?_) ?_ ?_
        rotate_left
        · (intro w9 hSw; (try dsimp only at hSw); go_simp <;> with_reducible rfl)
        try simp only [Act.put, l1, l2, l3]
        refine E_tk 16 (oi := ⟨some 89, _, _, _, _, _⟩) (v := ?_) ?_ ?_
        rotate_left
        · (intro w9 hSw; (try dsimp only at hSw); go_simp <;> with_reducible rfl)
        try simp only [Act.put, l1, l2, l3]
        refine E_tail (by rfl) (by kernel_rfl) ?_
        go_wp2_with fail
        obtain ⟨NM, hNM⟩ : ∃ l, l = marks ++ [(fr, max 0 n)] := ⟨_, rfl⟩
        have HNM := Lib.hid hNM
        have hset : Hid (MK.set marks.length ((fr, (0 : Int)).1, max 0 n) = NM) := Lib.hid (by rw [HMK.out, hNM, List.set_append_right _ _ (Nat.le_refl _)]; simp)
        have hll : Hid (MK.length = NM.length) := Lib.hid (by rw [hml.out, hNM]; simp)
        have hNl : NM.length ≤ 1001 := by rw [← hll.out]; exact hml2
        clear hNM
        have W34 : Hid (Wrote g w3 (w3.setCell ⟨g, marks.length * 2 + 1, none⟩ (.int .i64 (max 0 n)))) := Lib.hid (Wrote.set _ _ _ _)
        have HO4 : Hid (markE.Own (w3.setCell ⟨g, marks.length * 2 + 1, none⟩ (.int .i64 (max 0 n))) B (.slice (some ⟨g, 0, none⟩) NM.length c2) NM) := Lib.hid (by
          have := marks_set (max 0 n) HO3.out hmx.out
          rw [hset.out, hll.out] at this
          exact this)
        have BX4 : Hid (BIs (w3.setCell ⟨g, marks.length * 2 + 1, none⟩ (.int .i64 (max 0 n))) p (⟨⟨self, base, stable, sent, Av, cv, vs, Al, cl, log, Ap, cp, pend, (some ⟨g, 0, none⟩), c2, NM, Af, cf, fls⟩, Ak, ck, pk, Ad, cd, dl⟩ : CM).cells 86) := Lib.hid (by
          have := W34.out.bis BX3.out (Ne.symm hgp)
          simp only [CM.cells, hll.out] at this
          exact this)
        clear r7 rg fzg hHeld
        generalize w3.setCell ⟨g, marks.length * 2 + 1, none⟩ (.int .i64 (max 0 n)) = w4 at *
        have S4 : Hid (Stp B [1, 3] col w (paint col w.heap.size 3) w4) := Lib.hid (S3.out.trans (Stp.wrote W34.out hBg (Nat.le_trans H.out.Bsz S3.out.size) (by rw [HCV.out g rfl]; simp)))
        have OK4 : Hid (OkS (⟨self, base, stable, sent, Av, cv, vs, Al, cl, log, Ap, cp, pend, (some ⟨g, 0, none⟩), c2, NM, Af, cf, fls⟩ : BM).st) := Lib.hid (by
          have ok := OK.out
          rw [HM.out] at ok
          rw [HNM.out]
          exact ok_remark ok (by have := HN.out; simp only [BM.st]; omega))
        have C4 : Hid (CS w4 B (paint col w.heap.size 3) p ⟨⟨self, base, stable, sent, Av, cv, vs, Al, cl, log, Ap, cp, pend, (some ⟨g, 0, none⟩), c2, NM, Af, cf, fls⟩, Ak, ck, pk, Ad, cd, dl⟩) := Lib.hid (by
          have h := H.out
          rw [HM.out] at h
          have hf := h.fits
          refine ⟨BX4.out, hpc.out, h.bp, h.lies.remarks S4.out (by simp) (by simp) (by simp) (by simp) HO4.out (by rw [← hll.out]; exact HCV.out), S4.out.own h.pk h.kc (by simp), S4.out.colV h.pk h.kc, h.kiK S4.out (by simp), S4.out.own h.dl h.dc (by simp), S4.out.colV h.dl h.dc, ?_, h.cp⟩
          exact ⟨hf.vs, hf.vx, hf.log, hf.lp, hf.pend, hf.pp, by simp only; omega, hf.fls, hf.fl, hf.cl⟩)
        have HR2 : Hid (ackedF M.cs fr n = announceF (⟨⟨self, base, stable, sent, Av, cv, vs, Al, cl, log, Ap, cp, pend, (some ⟨g, 0, none⟩), c2, NM, Af, cf, fls⟩, Ak, ck, pk, Ad, cd, dl⟩ : CM).cs) := Lib.hid (by rw [HR.out, HM.out, HNM.out]; rfl)
        refine (announce_any _ B _ p _ (C4.out.ext Ext.drew1) (by have := OK4.out.vs; simpa [BM.st, vws_len] using this) OK4.out.st0 (fun x hx => (OK4.out.mks x hx).2) hdl (ok_maj OK4.out).1 (fun n _ => ok_cut OK4.out n)).mono ?_
        rintro en w9 ⟨m9, col9, rfl, hc9, hm9, hs9⟩
        go_wp2
        go_end0
        rw [HR2.out]
        exact ⟨m9, col9, rfl, hc9, hm9, (S4.out.mono (cs' := [1, 2, 3, 4, 5, 7]) (by simp)).trans ((Stp.ext' C4.out.Bsz Ext.drew1).trans hs9)⟩
end Go.Proofs.YtponbabbabnaeaaGreat
namespace Go.Proofs.YtponbabbabnaeaaGreat
open Go.RowKit
set_option maxRecDepth 100000 in
set_option maxHeartbeats 1000000 in
theorem handle12 (m : CM) (B : Nat) (col : Nat → Nat) (p : Nat) (fr num first mst : Int) (pay : List UInt8) (ents : List Ent) (Ae : Option Addr) (ce : Nat) (w : World) (h : CS w B col p m) (ok : OkS m.b.st) (hdl : m.dl.length ≤ 100000) (hop : openB m.b.st = true) (hle : leadB m.b.st = false) (hcond : fr = seqrF (lastV m.b.st.views))
    (hr : Row w Ae (entE.cells ents)) (hce : ents.length ≤ ce) (hel : ents.length ≤ 2000) (hep : ∀ e ∈ ents, e.p.length ≤ 6000) (hfi : 0 ≤ first) (hf40 : first ≤ 1099511627776) :
    Calls Tryz.prog 73 #[.pointer (some ⟨p, 0, none⟩), .int .i64 fr, msgV ⟨12, num, first, mst, pay, ents⟩ Ae ce] w (Does B col p w (handleF m.cs fr ⟨12, num, first, mst, pay, ents⟩)) := by
  have H := Lib.hid h; have OK := Lib.hid ok
  have HR : Hid (handleF m.cs fr ⟨12, num, first, mst, pay, ents⟩ = appendedF m.cs ⟨12, num, first, mst, pay, ents⟩) := Lib.hid (by
    have h1 : openB m.cs.s = true := hop
    have h2 : leadB m.cs.s = false := hle
    have h3 : fr = seqrF (lastV m.cs.s.views) := hcond
    unfold handleF
    simp [h1, h2, h3])
  have HOP := Lib.hid hop; have HLE := Lib.hid hle; have HCO := Lib.hid hcond
  have E0 : Hid (Ext w (w.alloc (.cells #[.int .i64 12, .int .i64 num, .int .i64 first, .int .i64 mst, .string (strB pay), .slice Ae ents.length ce] 110))) := Lib.hid (Ext.new _ _)
  have M0 : Hid (BIs (w.alloc (.cells #[.int .i64 12, .int .i64 num, .int .i64 first, .int .i64 mst, .string (strB pay), .slice Ae ents.length ce] 110)) w.heap.size #[.int .i64 12, .int .i64 num, .int .i64 first, .int .i64 mst, .string (strB pay), .slice Ae ents.length ce] 110) := Lib.hid (BIs.new _ _ _)
  have HER := Lib.hid hr; have HEP := Lib.hid hep; clear hr hep
  have hp := h.lt
  have q1 : w.cell? ⟨p, 1, none⟩ = some (.slice m.b.Av m.b.vs.length m.b.cv) := h.cell 1
  have hvl : 0 < m.b.vs.length := by have h1 := ok.vs; simpa [BM.st, vws_len] using h1
  have HFT := Lib.hid h.fits
  have hfv := h.fits.vs
  obtain ⟨v, hv, hlv, hcall⟩ := last_m m.b.Av m.b.cv m.b.vs (w.alloc (.cells #[.int .i64 12, .int .i64 num, .int .i64 first, .int .i64 mst, .string (strB pay), .slice Ae ents.length ce] 110)) (h.ext E0.out).lies.vs hvl (by omega)
  have HXR : Hid (Row (w.alloc (.cells #[.int .i64 12, .int .i64 num, .int .i64 first, .int .i64 mst, .string (strB pay), .slice Ae ents.length ce] 110)) v.A (ints v.xs)) := Lib.hid (((h.ext E0.out).lies.vs.2 v hv).2 (v.A, ints v.xs) (by simp [viewE]))
  have hx16 : v.xs.length ≤ 16 := by
    have h1 := (ok_maj ok).2.1
    have h2 : lastV m.b.st.views = (v.n, v.xs) := hlv
    rw [h2] at h1; exact h1
  have HLV : Hid (lastV m.b.st.views = (v.n, v.xs)) := Lib.hid hlv
  have HCALL := Lib.hid hcall
  obtain ⟨nv, Ax, cx, xs⟩ := v
  simp only at HXR hx16 HLV HCALL
  have hfd := field_view1
  clear h ok hop hle hcond hcall hv hlv hfv
  go_enter Tryz.func73, Tryz.ntmps73
  go_wp2_with fail
  refine HCALL.out.mono ?_
  rintro en w1 ⟨rfl, hx1⟩
  have X1 := Lib.hid hx1
  clear hx1 q1 HCALL
  obtain ⟨hb, hhb⟩ : ∃ b, hasB xs fr = b := ⟨_, rfl⟩
  have HHB := Lib.hid hhb
  obtain ⟨sq, hsq⟩ : ∃ s, seqrF (nv, xs) = s := ⟨_, rfl⟩
  have HSQ := Lib.hid hsq
  clear hhb hsq
  have E1 : Hid (Ext w1 (w1.alloc (.cells #[.int .i64 nv, .slice Ax xs.length cx] 46))) := Lib.hid (Ext.new _ _)
  go_wp2_with fail
  refine (contains_c Ax cx xs fr _ (HXR.out.ext (X1.out.trans E1.out)) (by omega) hb HHB.out).mono ?_
  rintro en w1' ⟨rfl, rfl⟩
  go_wp2_with fail
  refine (sequencer_b nv Ax cx xs _ (HXR.out.ext (X1.out.trans E1.out)) (by omega) sq HSQ.out).mono ?_
  rintro en w3 ⟨rfl, hx3⟩
  have X03 : Hid (Ext (w.alloc (.cells #[.int .i64 12, .int .i64 num, .int .i64 first, .int .i64 mst, .string (strB pay), .slice Ae ents.length ce] 110)) w3) := Lib.hid ((X1.out.trans E1.out).trans hx3)
  have C3 := Lib.hid (H.out.ext (E0.out.trans X03.out))
  have M3 := Lib.hid (M0.out.ext X03.out)
  clear hx3
  have q0 : w3.cell? ⟨p, 0, none⟩ = some (.int .i64 m.b.self) := C3.out.cell 0
  have q1 : w3.cell? ⟨p, 1, none⟩ = some (.slice m.b.Av m.b.vs.length m.b.cv) := C3.out.cell 1
  have q2 : w3.cell? ⟨p, 2, none⟩ = some (.int .i64 m.b.base) := C3.out.cell 2
  have q3 : w3.cell? ⟨p, 3, none⟩ = some (.slice m.b.Al m.b.log.length m.b.cl) := C3.out.cell 3
  have q4 : w3.cell? ⟨p, 4, none⟩ = some (.int .i64 m.b.stable) := C3.out.cell 4
  have q5 : w3.cell? ⟨p, 5, none⟩ = some (.int .i64 m.b.sent) := C3.out.cell 5
  have q6 : w3.cell? ⟨p, 6, none⟩ = some (.slice m.b.Ap m.b.pend.length m.b.cp) := C3.out.cell 6
  have q7 : w3.cell? ⟨p, 7, none⟩ = some (.slice m.b.Am m.b.marks.length m.b.cm) := C3.out.cell 7
  have q8 : w3.cell? ⟨p, 8, none⟩ = some (.slice m.b.Af m.b.fls.length m.b.cf) := C3.out.cell 8
  have b0 : w3.cell? ⟨w.heap.size, 0, none⟩ = some (.int .i64 12) := M3.out.cell 0
  have b1 : w3.cell? ⟨w.heap.size, 1, none⟩ = some (.int .i64 num) := M3.out.cell 1
  have b2 : w3.cell? ⟨w.heap.size, 2, none⟩ = some (.int .i64 first) := M3.out.cell 2
  have b3 : w3.cell? ⟨w.heap.size, 3, none⟩ = some (.int .i64 mst) := M3.out.cell 3
  have b4 : w3.cell? ⟨w.heap.size, 4, none⟩ = some (.string (strB pay)) := M3.out.cell 4
  have b5 : w3.cell? ⟨w.heap.size, 5, none⟩ = some (.slice Ae ents.length ce) := M3.out.cell 5
  have hqe : fr = sq := by rw [HCO.out, HLV.out]; exact HSQ.out
  subst hqe
  go_wp2_with fail
  refine (open_any m.b w3 C3.out.lies.reads hvl HFT.out).mono ?_
  rintro en w4 ⟨rfl, hx4⟩
  rw [HOP.out]
  have C4 := Lib.hid (C3.out.ext hx4); have M4 := Lib.hid (M3.out.ext hx4); have X4 := Lib.hid (X03.out.trans hx4)
  clear hx4
  clear q0 q1 q2 q3 q4 q5 q6 q7 q8 b0 b1 b2 b3 b4 b5
  have q0 : w4.cell? ⟨p, 0, none⟩ = some (.int .i64 m.b.self) := C4.out.cell 0
  have q1 : w4.cell? ⟨p, 1, none⟩ = some (.slice m.b.Av m.b.vs.length m.b.cv) := C4.out.cell 1
  have q2 : w4.cell? ⟨p, 2, none⟩ = some (.int .i64 m.b.base) := C4.out.cell 2
  have q3 : w4.cell? ⟨p, 3, none⟩ = some (.slice m.b.Al m.b.log.length m.b.cl) := C4.out.cell 3
  have q4 : w4.cell? ⟨p, 4, none⟩ = some (.int .i64 m.b.stable) := C4.out.cell 4
  have q5 : w4.cell? ⟨p, 5, none⟩ = some (.int .i64 m.b.sent) := C4.out.cell 5
  have q6 : w4.cell? ⟨p, 6, none⟩ = some (.slice m.b.Ap m.b.pend.length m.b.cp) := C4.out.cell 6
  have q7 : w4.cell? ⟨p, 7, none⟩ = some (.slice m.b.Am m.b.marks.length m.b.cm) := C4.out.cell 7
  have q8 : w4.cell? ⟨p, 8, none⟩ = some (.slice m.b.Af m.b.fls.length m.b.cf) := C4.out.cell 8
  have b0 : w4.cell? ⟨w.heap.size, 0, none⟩ = some (.int .i64 12) := M4.out.cell 0
  have b1 : w4.cell? ⟨w.heap.size, 1, none⟩ = some (.int .i64 num) := M4.out.cell 1
  have b2 : w4.cell? ⟨w.heap.size, 2, none⟩ = some (.int .i64 first) := M4.out.cell 2
  have b3 : w4.cell? ⟨w.heap.size, 3, none⟩ = some (.int .i64 mst) := M4.out.cell 3
  have b4 : w4.cell? ⟨w.heap.size, 4, none⟩ = some (.string (strB pay)) := M4.out.cell 4
  have b5 : w4.cell? ⟨w.heap.size, 5, none⟩ = some (.slice Ae ents.length ce) := M4.out.cell 5
  go_wp2_with fail
  refine (leads_any m.b w4 C4.out.lies.reads hvl HFT.out).mono ?_
  rintro en w5 ⟨rfl, hx5⟩
  rw [HLE.out]
  have C5 := Lib.hid (C4.out.ext hx5); have M5 := Lib.hid (M4.out.ext hx5); have X5 := Lib.hid (X4.out.trans hx5)
  clear hx5
  clear q0 q1 q2 q3 q4 q5 q6 q7 q8 b0 b1 b2 b3 b4 b5
  have q0 : w5.cell? ⟨p, 0, none⟩ = some (.int .i64 m.b.self) := C5.out.cell 0
  have q1 : w5.cell? ⟨p, 1, none⟩ = some (.slice m.b.Av m.b.vs.length m.b.cv) := C5.out.cell 1
  have q2 : w5.cell? ⟨p, 2, none⟩ = some (.int .i64 m.b.base) := C5.out.cell 2
  have q3 : w5.cell? ⟨p, 3, none⟩ = some (.slice m.b.Al m.b.log.length m.b.cl) := C5.out.cell 3
  have q4 : w5.cell? ⟨p, 4, none⟩ = some (.int .i64 m.b.stable) := C5.out.cell 4
  have q5 : w5.cell? ⟨p, 5, none⟩ = some (.int .i64 m.b.sent) := C5.out.cell 5
  have q6 : w5.cell? ⟨p, 6, none⟩ = some (.slice m.b.Ap m.b.pend.length m.b.cp) := C5.out.cell 6
  have q7 : w5.cell? ⟨p, 7, none⟩ = some (.slice m.b.Am m.b.marks.length m.b.cm) := C5.out.cell 7
  have q8 : w5.cell? ⟨p, 8, none⟩ = some (.slice m.b.Af m.b.fls.length m.b.cf) := C5.out.cell 8
  have b0 : w5.cell? ⟨w.heap.size, 0, none⟩ = some (.int .i64 12) := M5.out.cell 0
  have b1 : w5.cell? ⟨w.heap.size, 1, none⟩ = some (.int .i64 num) := M5.out.cell 1
  have b2 : w5.cell? ⟨w.heap.size, 2, none⟩ = some (.int .i64 first) := M5.out.cell 2
  have b3 : w5.cell? ⟨w.heap.size, 3, none⟩ = some (.int .i64 mst) := M5.out.cell 3
  have b4 : w5.cell? ⟨w.heap.size, 4, none⟩ = some (.string (strB pay)) := M5.out.cell 4
  have b5 : w5.cell? ⟨w.heap.size, 5, none⟩ = some (.slice Ae ents.length ce) := M5.out.cell 5
  go_wp2_with fail
  refine (appended_any m B _ p ⟨12, num, first, mst, pay, ents⟩ Ae ce _ C5.out OK.out (by exact HER.out.ext (E0.out.trans X5.out)) (by exact hce) (by exact hel) (by exact HEP.out) (by exact hfi) (by exact hf40) hdl).mono ?_
  rintro en w6 ⟨m6, col6, rfl, hc6, hm6, hs6⟩
  go_wp2
  go_end0
  rw [HR.out]
  exact ⟨m6, col6, rfl, hc6, hm6, (Stp.ext' H.out.Bsz (E0.out.trans X5.out)).trans hs6⟩
set_option maxRecDepth 100000 in
set_option maxHeartbeats 1000000 in
theorem handle13 (m : CM) (B : Nat) (col : Nat → Nat) (p : Nat) (fr num first mst : Int) (pay : List UInt8) (ents : List Ent) (Ae : Option Addr) (ce : Nat) (w : World) (h : CS w B col p m) (ok : OkS m.b.st) (hdl : m.dl.length ≤ 100000) (hop : openB m.b.st = true) (hle : leadB m.b.st = true) (hcond : hasB (lastV m.b.st.views).2 fr = true)
    (hsp : ∀ x ∈ m.b.marks, x.1 < fr) (hmn : m.b.marks.length ≤ 1000) :
    Calls Tryz.prog 73 #[.pointer (some ⟨p, 0, none⟩), .int .i64 fr, msgV ⟨13, num, first, mst, pay, ents⟩ Ae ce] w (Does B col p w (handleF m.cs fr ⟨13, num, first, mst, pay, ents⟩)) := by
  have H := Lib.hid h; have OK := Lib.hid ok
  have HR : Hid (handleF m.cs fr ⟨13, num, first, mst, pay, ents⟩ = ackedF m.cs fr first) := Lib.hid (by
    have h1 : openB m.cs.s = true := hop
    have h2 : leadB m.cs.s = true := hle
    have h3 : hasB (lastV m.cs.s.views).2 fr = true := hcond
    unfold handleF
    simp [h1, h2, h3])
  have HOP := Lib.hid hop; have HLE := Lib.hid hle; have HCO := Lib.hid hcond
  have E0 : Hid (Ext w (w.alloc (.cells #[.int .i64 13, .int .i64 num, .int .i64 first, .int .i64 mst, .string (strB pay), .slice Ae ents.length ce] 110))) := Lib.hid (Ext.new _ _)
  have M0 : Hid (BIs (w.alloc (.cells #[.int .i64 13, .int .i64 num, .int .i64 first, .int .i64 mst, .string (strB pay), .slice Ae ents.length ce] 110)) w.heap.size #[.int .i64 13, .int .i64 num, .int .i64 first, .int .i64 mst, .string (strB pay), .slice Ae ents.length ce] 110) := Lib.hid (BIs.new _ _ _)
  have HSP := Lib.hid hsp; clear hsp
  have hp := h.lt
  have q1 : w.cell? ⟨p, 1, none⟩ = some (.slice m.b.Av m.b.vs.length m.b.cv) := h.cell 1
  have hvl : 0 < m.b.vs.length := by have h1 := ok.vs; simpa [BM.st, vws_len] using h1
  have HFT := Lib.hid h.fits
  have hfv := h.fits.vs
  obtain ⟨v, hv, hlv, hcall⟩ := last_m m.b.Av m.b.cv m.b.vs (w.alloc (.cells #[.int .i64 13, .int .i64 num, .int .i64 first, .int .i64 mst, .string (strB pay), .slice Ae ents.length ce] 110)) (h.ext E0.out).lies.vs hvl (by omega)
  have HXR : Hid (Row (w.alloc (.cells #[.int .i64 13, .int .i64 num, .int .i64 first, .int .i64 mst, .string (strB pay), .slice Ae ents.length ce] 110)) v.A (ints v.xs)) := Lib.hid (((h.ext E0.out).lies.vs.2 v hv).2 (v.A, ints v.xs) (by simp [viewE]))
  have hx16 : v.xs.length ≤ 16 := by
    have h1 := (ok_maj ok).2.1
    have h2 : lastV m.b.st.views = (v.n, v.xs) := hlv
    rw [h2] at h1; exact h1
  have HLV : Hid (lastV m.b.st.views = (v.n, v.xs)) := Lib.hid hlv
  have HCALL := Lib.hid hcall
  obtain ⟨nv, Ax, cx, xs⟩ := v
  simp only at HXR hx16 HLV HCALL
  have hfd := field_view1
  clear h ok hop hle hcond hcall hv hlv hfv
  go_enter Tryz.func73, Tryz.ntmps73
  go_wp2_with fail
  refine HCALL.out.mono ?_
  rintro en w1 ⟨rfl, hx1⟩
  have X1 := Lib.hid hx1
  clear hx1 q1 HCALL
  obtain ⟨hb, hhb⟩ : ∃ b, hasB xs fr = b := ⟨_, rfl⟩
  have HHB := Lib.hid hhb
  obtain ⟨sq, hsq⟩ : ∃ s, seqrF (nv, xs) = s := ⟨_, rfl⟩
  have HSQ := Lib.hid hsq
  clear hhb hsq
  have E1 : Hid (Ext w1 (w1.alloc (.cells #[.int .i64 nv, .slice Ax xs.length cx] 46))) := Lib.hid (Ext.new _ _)
  go_wp2_with fail
  refine (contains_c Ax cx xs fr _ (HXR.out.ext (X1.out.trans E1.out)) (by omega) hb HHB.out).mono ?_
  rintro en w1' ⟨rfl, rfl⟩
  go_wp2_with fail
  refine (sequencer_b nv Ax cx xs _ (HXR.out.ext (X1.out.trans E1.out)) (by omega) sq HSQ.out).mono ?_
  rintro en w3 ⟨rfl, hx3⟩
  have X03 : Hid (Ext (w.alloc (.cells #[.int .i64 13, .int .i64 num, .int .i64 first, .int .i64 mst, .string (strB pay), .slice Ae ents.length ce] 110)) w3) := Lib.hid ((X1.out.trans E1.out).trans hx3)
  have C3 := Lib.hid (H.out.ext (E0.out.trans X03.out))
  have M3 := Lib.hid (M0.out.ext X03.out)
  clear hx3
  have q0 : w3.cell? ⟨p, 0, none⟩ = some (.int .i64 m.b.self) := C3.out.cell 0
  have q1 : w3.cell? ⟨p, 1, none⟩ = some (.slice m.b.Av m.b.vs.length m.b.cv) := C3.out.cell 1
  have q2 : w3.cell? ⟨p, 2, none⟩ = some (.int .i64 m.b.base) := C3.out.cell 2
  have q3 : w3.cell? ⟨p, 3, none⟩ = some (.slice m.b.Al m.b.log.length m.b.cl) := C3.out.cell 3
  have q4 : w3.cell? ⟨p, 4, none⟩ = some (.int .i64 m.b.stable) := C3.out.cell 4
  have q5 : w3.cell? ⟨p, 5, none⟩ = some (.int .i64 m.b.sent) := C3.out.cell 5
  have q6 : w3.cell? ⟨p, 6, none⟩ = some (.slice m.b.Ap m.b.pend.length m.b.cp) := C3.out.cell 6
  have q7 : w3.cell? ⟨p, 7, none⟩ = some (.slice m.b.Am m.b.marks.length m.b.cm) := C3.out.cell 7
  have q8 : w3.cell? ⟨p, 8, none⟩ = some (.slice m.b.Af m.b.fls.length m.b.cf) := C3.out.cell 8
  have b0 : w3.cell? ⟨w.heap.size, 0, none⟩ = some (.int .i64 13) := M3.out.cell 0
  have b1 : w3.cell? ⟨w.heap.size, 1, none⟩ = some (.int .i64 num) := M3.out.cell 1
  have b2 : w3.cell? ⟨w.heap.size, 2, none⟩ = some (.int .i64 first) := M3.out.cell 2
  have b3 : w3.cell? ⟨w.heap.size, 3, none⟩ = some (.int .i64 mst) := M3.out.cell 3
  have b4 : w3.cell? ⟨w.heap.size, 4, none⟩ = some (.string (strB pay)) := M3.out.cell 4
  have b5 : w3.cell? ⟨w.heap.size, 5, none⟩ = some (.slice Ae ents.length ce) := M3.out.cell 5
  have hhe : hb = true := by rw [← HHB.out]; have := HCO.out; rw [HLV.out] at this; exact this
  subst hhe
  go_wp2_with fail
  refine (open_any m.b w3 C3.out.lies.reads hvl HFT.out).mono ?_
  rintro en w4 ⟨rfl, hx4⟩
  rw [HOP.out]
  have C4 := Lib.hid (C3.out.ext hx4); have M4 := Lib.hid (M3.out.ext hx4); have X4 := Lib.hid (X03.out.trans hx4)
  clear hx4
  clear q0 q1 q2 q3 q4 q5 q6 q7 q8 b0 b1 b2 b3 b4 b5
  have q0 : w4.cell? ⟨p, 0, none⟩ = some (.int .i64 m.b.self) := C4.out.cell 0
  have q1 : w4.cell? ⟨p, 1, none⟩ = some (.slice m.b.Av m.b.vs.length m.b.cv) := C4.out.cell 1
  have q2 : w4.cell? ⟨p, 2, none⟩ = some (.int .i64 m.b.base) := C4.out.cell 2
  have q3 : w4.cell? ⟨p, 3, none⟩ = some (.slice m.b.Al m.b.log.length m.b.cl) := C4.out.cell 3
  have q4 : w4.cell? ⟨p, 4, none⟩ = some (.int .i64 m.b.stable) := C4.out.cell 4
  have q5 : w4.cell? ⟨p, 5, none⟩ = some (.int .i64 m.b.sent) := C4.out.cell 5
  have q6 : w4.cell? ⟨p, 6, none⟩ = some (.slice m.b.Ap m.b.pend.length m.b.cp) := C4.out.cell 6
  have q7 : w4.cell? ⟨p, 7, none⟩ = some (.slice m.b.Am m.b.marks.length m.b.cm) := C4.out.cell 7
  have q8 : w4.cell? ⟨p, 8, none⟩ = some (.slice m.b.Af m.b.fls.length m.b.cf) := C4.out.cell 8
  have b0 : w4.cell? ⟨w.heap.size, 0, none⟩ = some (.int .i64 13) := M4.out.cell 0
  have b1 : w4.cell? ⟨w.heap.size, 1, none⟩ = some (.int .i64 num) := M4.out.cell 1
  have b2 : w4.cell? ⟨w.heap.size, 2, none⟩ = some (.int .i64 first) := M4.out.cell 2
  have b3 : w4.cell? ⟨w.heap.size, 3, none⟩ = some (.int .i64 mst) := M4.out.cell 3
  have b4 : w4.cell? ⟨w.heap.size, 4, none⟩ = some (.string (strB pay)) := M4.out.cell 4
  have b5 : w4.cell? ⟨w.heap.size, 5, none⟩ = some (.slice Ae ents.length ce) := M4.out.cell 5
  go_wp2_with fail
  refine (leads_any m.b w4 C4.out.lies.reads hvl HFT.out).mono ?_
  rintro en w5 ⟨rfl, hx5⟩
  rw [HLE.out]
  have C5 := Lib.hid (C4.out.ext hx5); have M5 := Lib.hid (M4.out.ext hx5); have X5 := Lib.hid (X4.out.trans hx5)
  clear hx5
  clear q0 q1 q2 q3 q4 q5 q6 q7 q8 b0 b1 b2 b3 b4 b5
  have q0 : w5.cell? ⟨p, 0, none⟩ = some (.int .i64 m.b.self) := C5.out.cell 0
  have q1 : w5.cell? ⟨p, 1, none⟩ = some (.slice m.b.Av m.b.vs.length m.b.cv) := C5.out.cell 1
  have q2 : w5.cell? ⟨p, 2, none⟩ = some (.int .i64 m.b.base) := C5.out.cell 2
  have q3 : w5.cell? ⟨p, 3, none⟩ = some (.slice m.b.Al m.b.log.length m.b.cl) := C5.out.cell 3
  have q4 : w5.cell? ⟨p, 4, none⟩ = some (.int .i64 m.b.stable) := C5.out.cell 4
  have q5 : w5.cell? ⟨p, 5, none⟩ = some (.int .i64 m.b.sent) := C5.out.cell 5
  have q6 : w5.cell? ⟨p, 6, none⟩ = some (.slice m.b.Ap m.b.pend.length m.b.cp) := C5.out.cell 6
  have q7 : w5.cell? ⟨p, 7, none⟩ = some (.slice m.b.Am m.b.marks.length m.b.cm) := C5.out.cell 7
  have q8 : w5.cell? ⟨p, 8, none⟩ = some (.slice m.b.Af m.b.fls.length m.b.cf) := C5.out.cell 8
  have b0 : w5.cell? ⟨w.heap.size, 0, none⟩ = some (.int .i64 13) := M5.out.cell 0
  have b1 : w5.cell? ⟨w.heap.size, 1, none⟩ = some (.int .i64 num) := M5.out.cell 1
  have b2 : w5.cell? ⟨w.heap.size, 2, none⟩ = some (.int .i64 first) := M5.out.cell 2
  have b3 : w5.cell? ⟨w.heap.size, 3, none⟩ = some (.int .i64 mst) := M5.out.cell 3
  have b4 : w5.cell? ⟨w.heap.size, 4, none⟩ = some (.string (strB pay)) := M5.out.cell 4
  have b5 : w5.cell? ⟨w.heap.size, 5, none⟩ = some (.slice Ae ents.length ce) := M5.out.cell 5
  go_wp2_with fail
  refine (acked_end m B _ p fr first _ C5.out OK.out (by exact HSP.out) hdl (by exact hmn)).mono ?_
  rintro en w6 ⟨m6, col6, rfl, hc6, hm6, hs6⟩
  go_wp2
  go_end0
  rw [HR.out]
  exact ⟨m6, col6, rfl, hc6, hm6, (Stp.ext' H.out.Bsz (E0.out.trans X5.out)).trans hs6⟩
end Go.Proofs.YtponbabbabnaeaaGreat
