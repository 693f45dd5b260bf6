/- Part 16 of the proof: contracts of functions that the statement reaches. Conditions: as each theorem says. -/
import Derived.Test.YtponbabbabnaeaaGreatQb01
import Derived.Test.YtponbabbabnaeaaGreatQb15
namespace Go.Proofs.YtponbabbabnaeaaGreat
open Go.RowKit
theorem follows_keep (n : Nat) (c : Cs) : ((List.range n).foldl followStep c).s = c.s ∧ ((List.range n).foldl followStep c).dl = c.dl ∧ ((List.range n).foldl followStep c).pk.length = c.pk.length + n := by
 induction n with
 | zero => exact ⟨rfl, rfl, rfl⟩
 | succ n ih =>
  rw [List.range_succ, List.foldl_append]
  obtain ⟨h1, h2, h3⟩ := ih
  refine ⟨h1, h2, ?_⟩
  show ((((List.range n).foldl followStep c).pk ++ _).length = _)
  rw [List.length_append, h3]; simp; omega
theorem follow_succ (n : Nat) (c : Cs) : (List.range (n + 1)).foldl followStep c = followStep ((List.range n).foldl followStep c) n := by
 rw [List.range_succ, List.foldl_append]; rfl
set_option maxRecDepth 100000 in
set_option maxHeartbeats 1000000 in
theorem follow_any (m : CM) (B : Nat) (col : Nat → Nat) (p : Nat) (w : World) (h : CS w B col p m) (ok : OkS m.b.st) (hpk : m.pk.length = 0) :
  Calls Tryz.prog 46 #[.pointer (some ⟨p, 0, none⟩)] w (Does B col p w (followF m.cs)) := by
 have H := hJ h; have OK := hJ ok
 have hpl := h.lt
 have hfv := h.fits.vs
 have hvs : 0 < m.b.vs.length := by have := ok.vs; simpa [BM.st, vws_len] using this
 obtain ⟨v, hv, hlv, hcall⟩ := last_m m.b.Av m.b.cv m.b.vs w h.lies.vs hvs (by omega)
 have HCALL := hJ hcall
 have HXR : Hid (Row w v.A (ints v.xs)) := hJ ((h.lies.vs.2 v hv).2 (v.A, ints v.xs) (by simp [viewE]))
 have hx16 : v.xs.length ≤ 16 := by
  have h1 := (ok_maj ok).2.1
  have h2 : lastV m.b.st.views = (v.n, v.xs) := hlv
  rw [h2] at h1; exact h1
 obtain ⟨sq, hsq⟩ : ∃ s, seqrF (v.n, v.xs) = s := ⟨_, rfl⟩
 have HLV := hJ hlv
 have HSQ := hJ hsq
 obtain ⟨c1, hc1⟩ : ∃ c, c = sendF m.cs sq 13 (numsF [m.b.base, (m.b.log.length : Int)]) := ⟨_, rfl⟩
 have HC1 := hJ hc1
 have HFF : Hid (followF m.cs = (List.range (followN m.b.st)).foldl followStep c1) := hJ (by
  rw [hc1, ← hsq, ← hlv]; rfl)
 have q1 := h.cell 1; have q0 := h.cell 0; have q2 := h.cell 2; have q3 := h.cell 3
 have hlen := ok.log
 have HLR0 := hJ h.lies.log.row
 clear h ok hcall hv hlv hc1 hsq; obtain ⟨nv, Ax, cx, xs⟩ := v
 simp only at HXR hx16 HCALL HSQ HLV
 obtain ⟨M, hM⟩ : ∃ y, y = m := ⟨_, rfl⟩
 have HM := hJ hM
 rw [← hM] at H OK HC1 HFF ⊢
 clear hM; obtain ⟨⟨self, base, stable, sent, Av, cv, vs, Al, cl, log, Ap, cp, pend, Am, cm, marks, Af, cf, fls⟩, Ak, ck, pk, Ad, cd, dl⟩ := m
 simp only [BM.st] at hvs hfv hpk HCALL hlen HLR0
 replace q1 : w.cell? ⟨p, 1, none⟩ = some (.slice Av vs.length cv) := q1
 replace q0 : w.cell? ⟨p, 0, none⟩ = some (.int .i64 self) := q0
 replace q2 : w.cell? ⟨p, 2, none⟩ = some (.int .i64 base) := q2
 replace q3 : w.cell? ⟨p, 3, none⟩ = some (.slice Al log.length cl) := q3
 go_enter Tryz.func46, Tryz.ntmps46
 go_wp2_with fail
 refine HCALL.out.mono ?_
 rintro en w0 ⟨rfl, hx0⟩
 go_wp2_with fail
 refine (sequencer_b nv Ax cx xs w0 (HXR.out.ext hx0) (by omega) sq HSQ.out).mono ?_
 rintro en w1 ⟨rfl, hx1⟩
 have X1 : Hid (Ext w w1) := hJ (hx0.trans hx1)
 have p2 : w1.cell? ⟨p, 2, none⟩ = some (.int .i64 base) := by rw [X1.out.cell (by exact hpl)]; exact q2
 have p3 : w1.cell? ⟨p, 3, none⟩ = some (.slice Al log.length cl) := by rw [X1.out.cell (by exact hpl)]; exact q3
 have hp1 : p < w1.heap.size := by have := X1.out.size; omega
 have C1 := hJ (H.out.ext X1.out)
 obtain ⟨bd, hbd⟩ : ∃ l, l = numsF [base, (log.length : Int)] := ⟨_, rfl⟩
 have HBD := hJ hbd
 have hbl : bd.length ≤ 100000000 := by rw [hbd]; have := numsF_len [base, (log.length : Int)]; simp at this; omega
 have HC1' : Hid (c1 = sendF M.cs sq 13 bd) := hJ (by rw [HC1.out, HM.out, hbd])
 clear hx0 hx1 q1 q0 q2 q3 hbd; go_wp2; refine E_begin 15 (fun w' => w'.cell? ⟨p, 2, none⟩ = some (.int .i64 base) ∧ w'.cell? ⟨p, 3, none⟩ = some (.slice Al log.length cl)) (by kernel_rfl) ⟨by simpa using p2, by simpa using p3⟩ (fun hHeld => ?_)
 refine E_t 0 11 ?_; refine E_t 1 12 ?_; refine E_t 2 13 ?_; refine E_t 3 14 ?_; refine E_t 4 15 ?_; refine E_t 5 16 ?_; refine E_t 6 17 ?_; refine E_t 7 18 ?_; refine E_t 8 19 ?_; refine E_t 9 20 ?_; refine E_t 10 21 ?_; refine E_t 11 22 ?_; refine E_t 12 23 ?_; refine E_ready [13] (by kernel_rfl) (by simp) ?_
 refine AllE.cons (o := ⟨some 24, _, _, _, _, _⟩) rfl (fun K hK => ?_) AllE.nil
 go_simp; clear hHeld; refine hK.out _ _ ⟨(alloc_drew_cell hp1).trans p2, (alloc_drew_cell hp1).trans p3⟩ (fun hHeld => ?_)
 clear hK K; try simp only [Act.put, aP1, aP2, aP3]
 refine E_ready [14] (by kernel_rfl) (by simp) ?_
 refine AllE.cons (o := ⟨some 25, _, _, _, _, _⟩) rfl (fun K hK => ?_) AllE.nil
 go_simp; go_at_call 48; refine (numbers_any _ 2 [base, (log.length : Int)] _ (by exact rowd (ints2_row _ _ _) (by simp)) (by simp)).mono ?_
 rintro e2 w6 ⟨A2, c2, rfl, h21, h22, ho2, hx2⟩
 rw [← HBD.out] at h21 ho2 ⊢
 have X6 : Hid (Ext w1 w6) := hJ (((Ext.new _ _).trans Ext.drew1).trans hx2)
 have HR2 := hJ ho2.row
 clear ho2 hx2; have r2 : w6.cell? ⟨p, 2, none⟩ = some (.int .i64 base) := by rw [X6.out.cell (by exact hp1)]; exact p2
 have r3 : w6.cell? ⟨p, 3, none⟩ = some (.slice Al log.length cl) := by rw [X6.out.cell (by exact hp1)]; exact p3
 clear hHeld; refine hK.out _ _ ⟨r2, r3⟩ (fun hHeld => ?_)
 clear hK K; try simp only [Act.put, aP1, aP2, aP3]
 refine E_tail (by rfl) (by kernel_rfl) ?_
 go_wp2_with fail
 refine (send_any M B col p sq 13 A2 c2 bd w6 (C1.out.ext X6.out) HR2.out hbl (by decide) (by rw [HM.out]; simp only; omega)).mono ?_
 rintro en w7 ⟨m7, col7, rfl, hc7, hm7, hs7⟩
 have C7 := hJ hc7
 have S7 : Hid (Stp B [1, 2, 3, 4, 5, 7] col w col7 w7) := hJ ((Stp.ext' H.out.Bsz (X1.out.trans X6.out)).trans hs7)
 have HM7 : Hid (m7.cs = c1) := hJ (by rw [hm7, HC1'.out])
 have HS7 : Hid (m7.b.st = M.b.st ∧ m7.pk.length = 1) := hJ (by
  have h1 : m7.cs.s = M.cs.s := by rw [hm7]; rfl
  have h2 : m7.cs.pk.length = 1 := by
   rw [hm7]; show (M.cs.pk ++ _).length = 1
   have : M.cs.pk.length = 0 := by rw [HM.out]; simp only [CM.cs, List.length_map]; exact hpk
   simp [this]
  exact ⟨h1, by simpa [CM.cs] using h2⟩)
 have OK7 : Hid (OkS m7.b.st) := hJ (by rw [HS7.out.1]; exact OK.out)
 have HFF7 : Hid (followF M.cs = (List.range (followN m7.b.st)).foldl followStep m7.cs) := hJ (by rw [HS7.out.1, HFF.out, HM7.out, HM.out])
 clear hc7 hm7 hs7 p2 p3 r2 r3 hHeld HC1' HC1 HFF HM7 HBD hbl hp1 C1 HR2 X6 X1; obtain ⟨M7, hM7⟩ : ∃ y, y = m7 := ⟨_, rfl⟩
 have HMM7 := hJ hM7
 have p0 := C7.out.cell 0; have p3 := C7.out.cell 3
 have hp7 := C7.out.lt
 have HLR := hJ C7.out.lies.log.row
 have hlen7 := OK7.out.log
 have hown7 := OK7.out.own; have hsent7 := OK7.out.sent
 rw [← hM7] at C7 OK7 HFF7 HS7
 clear hM7; have HN7 : Hid (followN M7.b.st = (m7.b.sent - ownN m7.b.log m7.b.self).toNat) := hJ (by rw [HMM7.out]; rfl)
 obtain ⟨⟨self, base, stable, sent, Av, cv, vs, Al, cl, log, Ap, cp, pend, Am, cm, marks, Af, cf, fls⟩, Ak, ck, pk, Ad, cd, dl⟩ := m7
 replace p0 : w7.cell? ⟨p, 0, none⟩ = some (.int .i64 self) := p0
 replace p3 : w7.cell? ⟨p, 3, none⟩ = some (.slice Al log.length cl) := p3
 simp only [BM.st] at HLR hlen7 hown7 hsent7
 simp only at HN7
 obtain ⟨own, hown⟩ : ∃ o, o = ownN log self := ⟨_, rfl⟩
 have HOW := hJ hown
 rw [← hown] at hown7 HN7
 clear hown; have hwo : IntKind.i64.wrap ((own : Int) + 1) = (own : Int) + 1 := IntWalk.i64_in _ (by omega)
 go_wp2; refine E_begin 13 (fun w' => w'.cell? ⟨p, 0, none⟩ = some (.int .i64 self) ∧ w'.cell? ⟨p, 3, none⟩ = some (.slice Al log.length cl)) (by kernel_rfl) ⟨by simpa using p0, by simpa using p3⟩ (fun hHeld => ?_)
 refine E_t 0 27 ?_; refine E_t 1 28 ?_; refine E_t 2 29 ?_; refine E_t 3 30 ?_; refine E_t 4 31 ?_; refine E_t 5 32 ?_; refine E_t 6 33 ?_; refine E_t 7 34 ?_; refine E_t 8 35 ?_; refine E_t 9 36 ?_; refine E_ready [10] (by kernel_rfl) (by simp) ?_
 refine AllE.cons (o := ⟨some 37, _, _, _, _, _⟩) rfl (fun K hK => ?_) AllE.nil
 go_simp; go_at_call 91; refine (own_any Al cl log self _ (HLR.out.ext Ext.drew1) (by omega)).mono ?_
 rintro e2 w8 ⟨rfl, hx8⟩
 rw [← HOW.out]
 have X8 : Hid (Ext w7 w8) := hJ (Ext.drew1.trans hx8)
 clear hx8; have r0 : w8.cell? ⟨p, 0, none⟩ = some (.int .i64 self) := by rw [X8.out.cell (by exact hp7)]; exact p0
 have r3 : w8.cell? ⟨p, 3, none⟩ = some (.slice Al log.length cl) := by rw [X8.out.cell (by exact hp7)]; exact p3
 clear hHeld; refine hK.out _ _ ⟨r0, r3⟩ (fun hHeld => ?_)
 clear hK K; try simp only [Act.put, aP1, aP2, aP3]
 refine E_t 11 38 ?_; refine E_t 12 3 ?_; refine E_end (by kernel_rfl) (by rfl) ?_
 go_wp2; clear hHeld r0 r3 p0 p3 hwo; go_loopw [3] (fun sv wr => ∃ (j : Nat) (m' : CM) (col' : Nat → Nat), sv = .int .i64 ((own : Int) + 1 + (j : Int)) ∧ j ≤ followN M7.b.st ∧ Hid (CS wr B col' p m') ∧ Hid (m'.cs = (List.range j).foldl followStep M7.cs) ∧ Hid (Stp B [1, 2, 3, 4, 5, 7] col7 w7 col' wr)) (fun sv _ => (sent + 1 - intOf sv).toNat)
 case atStart => exact ⟨0, M7, col7, by simp, Nat.zero_le _, hJ (C7.out.ext X8.out), hJ rfl, hJ (Stp.ext' C7.out.Bsz X8.out)⟩
 case round =>
  obtain ⟨j, m', col', rfl, hj, HC, HMJ, HS⟩ := hrel
  have hj' : (j : Int) ≤ sent - own := by have := HN7.out; omega
  obtain ⟨l1, l2, l3⟩ := follows_keep j M7.cs
  rw [← HMJ.out] at l1 l2 l3
  have HKM : Hid (m'.b.st = M7.b.st ∧ m'.pk.length ≤ 1 + j) := hJ ⟨l1, by have := HS7.out.2; simp only [CM.cs, List.length_map] at l3; omega⟩
  have HOKM : Hid (OkS m'.b.st) := hJ (by rw [HKM.out.1]; exact OK7.out)
  have p0 := HC.out.cell 0; have p1 := HC.out.cell 1; have p2 := HC.out.cell 2; have p3 := HC.out.cell 3; have p4 := HC.out.cell 4; have p5 := HC.out.cell 5; have p6 := HC.out.cell 6; have p7 := HC.out.cell 7; have p8 := HC.out.cell 8
  have hpr := HC.out.lt
  have HLr := hJ HC.out.lies.reads
  have HST0 : Hid (m'.b.sent = sent ∧ ownN m'.b.log m'.b.self = own) := hJ (by
   have h := HKM.out.1
   rw [HMM7.out] at h
   simp only [BM.st, St.mk.injEq] at h
   obtain ⟨e1, e2, e3, e4, e5, e6, e7, e8, e9⟩ := h
   exact ⟨e6, by rw [e4, e1, HOW.out]⟩)
  have HFS : Hid (followStep m'.cs j = sendF m'.cs (seqrF (lastV m'.cs.s.views)) 11 (numsF [m'.b.base, (ownN m'.b.log m'.b.self : Int) + 1 + (j : Int)] ++ strF (pendAt m'.b.st ((ownN m'.b.log m'.b.self : Int) + 1 + (j : Int))))) := hJ rfl
  have HSQ' : Hid (seqrF (lastV m'.cs.s.views) = sq) := hJ (by
   have h1 : m'.cs.s.views = M7.b.st.views := by show m'.b.st.views = _; rw [HKM.out.1]
   rw [h1, HS7.out.1, HM.out]
   show seqrF (lastV (vws _)) = sq
   rw [HLV.out]; exact HSQ.out)
  rw [HSQ'.out] at HFS
  have hpn := HOKM.out.pn; have hpnd := HOKM.out.pend
  have hot := ownN_take m'.b.st.log m'.b.st.stable.toNat m'.b.st.self
  have HPP := hJ HOKM.out.pp
  obtain ⟨MM, hMM⟩ : ∃ y, y = m' := ⟨_, rfl⟩
  have HMM := hJ hMM
  rw [← hMM] at HC HMJ
  have HFS' : Hid (followStep MM.cs j = sendF MM.cs sq 11 (numsF [m'.b.base, (ownN m'.b.log m'.b.self : Int) + 1 + (j : Int)] ++ strF (pendAt m'.b.st ((ownN m'.b.log m'.b.self : Int) + 1 + (j : Int))))) := hJ (by rw [hMM]; exact HFS.out)
  clear hMM l1 l2 l3 HFS HLR; obtain ⟨⟨self, base, stable, sent, Av, cv, vs, Al, cl, log, Ap, cp, pend, Am, cm, marks, Af, cf, fls⟩, Ak, ck, pk, Ad, cd, dl⟩ := m'
  simp only at HST0
  obtain ⟨hs0, ho0⟩ := HST0.out
  subst hs0
  simp only [BM.st] at hpn hpnd hot HPP
  rw [ho0] at HFS'
  have HO0 := hJ ho0
  have hpd' : sent - own ≤ pend.length := by rw [ho0] at hot; omega
  clear ho0 hpnd hot HST0; replace p0 : wr.cell? ⟨p, 0, none⟩ = some (.int .i64 self) := p0
  replace p1 : wr.cell? ⟨p, 1, none⟩ = some (.slice Av vs.length cv) := p1
  replace p2 : wr.cell? ⟨p, 2, none⟩ = some (.int .i64 base) := p2
  replace p3 : wr.cell? ⟨p, 3, none⟩ = some (.slice Al log.length cl) := p3
  replace p4 : wr.cell? ⟨p, 4, none⟩ = some (.int .i64 stable) := p4
  replace p5 : wr.cell? ⟨p, 5, none⟩ = some (.int .i64 sent) := p5
  replace p6 : wr.cell? ⟨p, 6, none⟩ = some (.slice Ap pend.length cp) := p6
  replace p7 : wr.cell? ⟨p, 7, none⟩ = some (.slice Am marks.length cm) := p7
  replace p8 : wr.cell? ⟨p, 8, none⟩ = some (.slice Af fls.length cf) := p8
  by_cases hc1 : (own : Int) + 1 + (j : Int) ≤ sent
  ·have hd1 : decide ((own : Int) + 1 + (j : Int) ≤ sent) = true := by simpa using hc1
   obtain ⟨ix, hix⟩ : ∃ ix : Nat, (pend.length : Int) - 1 - (sent - ((own : Int) + 1 + (j : Int))) = (ix : Int) := ⟨((pend.length : Int) - 1 - (sent - ((own : Int) + 1 + (j : Int)))).toNat, by omega⟩
   obtain ⟨pl, hpl2⟩ : ∃ pl, pend[ix]? = some pl := ⟨_, List.getElem?_eq_getElem (by omega)⟩
   have HPL := hJ hpl2
   have hpll : pl.length ≤ 6000 := HPP.out pl (List.mem_of_getElem? hpl2)
   obtain ⟨bd, hbd⟩ : ∃ l, l = numsF [base, (own : Int) + 1 + (j : Int)] ++ strF pl := ⟨_, rfl⟩
   have HBD := hJ hbd
   have hbl : bd.length ≤ 100000000 := by
    rw [hbd]
    have h1 := numsF_len [base, (own : Int) + 1 + (j : Int)]
    have h2 := encU_len10 (v := pl.length) (by unfold U64; omega)
    unfold strF
    simp only [List.length_append, List.length_cons, List.length_nil] at *
    omega
   have HST : Hid (followStep MM.cs j = sendF MM.cs sq 11 bd) := hJ (by
    rw [HFS'.out, hbd]
    congr 3
    simp only [pendAt, BM.st]
    rw [hix]
    simp [hpl2])
   have hws : IntKind.i64.wrap ((own : Int) + 1 + (j : Int) + 1) = (own : Int) + 1 + (j : Int) + 1 := IntWalk.i64_in _ (by omega)
   clear hpl2 hbd; go_wp2; refine E_begin 17 (fun w' => w'.cell? ⟨p, 0, none⟩ = some (.int .i64 self) ∧ w'.cell? ⟨p, 1, none⟩ = some (.slice Av vs.length cv) ∧ w'.cell? ⟨p, 2, none⟩ = some (.int .i64 base) ∧ w'.cell? ⟨p, 3, none⟩ = some (.slice Al log.length cl) ∧ w'.cell? ⟨p, 4, none⟩ = some (.int .i64 stable) ∧ w'.cell? ⟨p, 5, none⟩ = some (.int .i64 sent) ∧ w'.cell? ⟨p, 6, none⟩ = some (.slice Ap pend.length cp) ∧ w'.cell? ⟨p, 7, none⟩ = some (.slice Am marks.length cm) ∧ w'.cell? ⟨p, 8, none⟩ = some (.slice Af fls.length cf)) (by kernel_rfl) ⟨by simpa using p0, by simpa using p1, by simpa using p2, by simpa using p3, by simpa using p4, by simpa using p5, by simpa using p6, by simpa using p7, by simpa using p8⟩ (fun hHeld => ?_)
   refine E_t 0 48 ?_; refine E_t 1 49 ?_; refine E_t 2 50 ?_; refine E_t 3 51 ?_; refine E_t 4 52 ?_; refine E_t 5 53 ?_; refine E_t 6 54 ?_; refine E_t 7 55 ?_; refine E_t 10 58 ?_; refine E_t 11 59 ?_; refine E_t 12 60 ?_; refine E_t 13 61 ?_; refine E_t 14 62 ?_; refine E_ready [8] (by kernel_rfl) (by simp) ?_
   refine AllE.cons (o := ⟨some 56, _, _, _, _, _⟩) rfl (fun K hK => ?_) AllE.nil
   go_simp; clear hHeld; refine hK.out _ _ ⟨(alloc_drew_cell hpr).trans p0, (alloc_drew_cell hpr).trans p1, (alloc_drew_cell hpr).trans p2, (alloc_drew_cell hpr).trans p3, (alloc_drew_cell hpr).trans p4, (alloc_drew_cell hpr).trans p5, (alloc_drew_cell hpr).trans p6, (alloc_drew_cell hpr).trans p7, (alloc_drew_cell hpr).trans p8⟩ (fun hHeld => ?_)
   clear hK K; try simp only [Act.put, aP1, aP2, aP3]
   refine E_ready [9] (by kernel_rfl) (by simp) ?_
   refine AllE.cons (o := ⟨some 57, _, _, _, _, _⟩) rfl (fun K hK => ?_) AllE.nil
   go_simp; go_at_call 48; refine (numbers_any _ 2 [base, (own : Int) + 1 + (j : Int)] _ (by exact rowd (ints2_row _ _ _) (by simp)) (by simp)).mono ?_
   rintro e2 w6 ⟨A2, c2, rfl, h21, h22, ho2, hx2⟩
   have X6 : Hid (Ext wr w6) := hJ (((Ext.new _ _).trans Ext.drew1).trans hx2)
   have HR2 := hJ ho2.row
   clear ho2 hx2; have r0 : w6.cell? ⟨p, 0, none⟩ = some (.int .i64 self) := by rw [X6.out.cell (by exact hpr)]; exact p0
   have r1 : w6.cell? ⟨p, 1, none⟩ = some (.slice Av vs.length cv) := by rw [X6.out.cell (by exact hpr)]; exact p1
   have r2 : w6.cell? ⟨p, 2, none⟩ = some (.int .i64 base) := by rw [X6.out.cell (by exact hpr)]; exact p2
   have r3 : w6.cell? ⟨p, 3, none⟩ = some (.slice Al log.length cl) := by rw [X6.out.cell (by exact hpr)]; exact p3
   have r4 : w6.cell? ⟨p, 4, none⟩ = some (.int .i64 stable) := by rw [X6.out.cell (by exact hpr)]; exact p4
   have r5 : w6.cell? ⟨p, 5, none⟩ = some (.int .i64 sent) := by rw [X6.out.cell (by exact hpr)]; exact p5
   have r6 : w6.cell? ⟨p, 6, none⟩ = some (.slice Ap pend.length cp) := by rw [X6.out.cell (by exact hpr)]; exact p6
   have r7 : w6.cell? ⟨p, 7, none⟩ = some (.slice Am marks.length cm) := by rw [X6.out.cell (by exact hpr)]; exact p7
   have r8 : w6.cell? ⟨p, 8, none⟩ = some (.slice Af fls.length cf) := by rw [X6.out.cell (by exact hpr)]; exact p8
   clear hHeld; refine hK.out _ _ ⟨r0, r1, r2, r3, r4, r5, r6, r7, r8⟩ (fun hHeld => ?_)
   clear hK K; try simp only [Act.put, aP1, aP2, aP3]
   refine E_ready [15] (by kernel_rfl) (by simp) ?_
   refine AllE.cons (o := ⟨some 63, _, _, _, _, _⟩) rfl (fun K hK => ?_) AllE.nil
   go_simp; go_at_call 112; refine (payload_raw ⟨self, base, stable, sent, Av, cv, vs, Al, cl, log, Ap, cp, pend, Am, cm, marks, Af, cf, fls⟩ stable Ap ((own : Int) + 1 + (j : Int)) ix pl _ rfl (HLr.out.ext X6.out) (by simp only; omega) ⟨by simp only; omega, by simp only; omega⟩ ⟨by omega, by omega⟩ (by simp only; omega) (by exact HPL.out)).mono ?_
   rintro e3 w7' ⟨rfl, hx7⟩
   have X7' : Hid (Ext wr w7') := hJ (X6.out.trans hx7)
   have HR2' := hJ (HR2.out.ext hx7)
   clear hx7; have s0 : w7'.cell? ⟨p, 0, none⟩ = some (.int .i64 self) := by rw [X7'.out.cell (by exact hpr)]; exact p0
   have s1 : w7'.cell? ⟨p, 1, none⟩ = some (.slice Av vs.length cv) := by rw [X7'.out.cell (by exact hpr)]; exact p1
   have s2 : w7'.cell? ⟨p, 2, none⟩ = some (.int .i64 base) := by rw [X7'.out.cell (by exact hpr)]; exact p2
   have s3 : w7'.cell? ⟨p, 3, none⟩ = some (.slice Al log.length cl) := by rw [X7'.out.cell (by exact hpr)]; exact p3
   have s4 : w7'.cell? ⟨p, 4, none⟩ = some (.int .i64 stable) := by rw [X7'.out.cell (by exact hpr)]; exact p4
   have s5 : w7'.cell? ⟨p, 5, none⟩ = some (.int .i64 sent) := by rw [X7'.out.cell (by exact hpr)]; exact p5
   have s6 : w7'.cell? ⟨p, 6, none⟩ = some (.slice Ap pend.length cp) := by rw [X7'.out.cell (by exact hpr)]; exact p6
   have s7 : w7'.cell? ⟨p, 7, none⟩ = some (.slice Am marks.length cm) := by rw [X7'.out.cell (by exact hpr)]; exact p7
   have s8 : w7'.cell? ⟨p, 8, none⟩ = some (.slice Af fls.length cf) := by rw [X7'.out.cell (by exact hpr)]; exact p8
   clear hHeld; refine hK.out _ _ ⟨s0, s1, s2, s3, s4, s5, s6, s7, s8⟩ (fun hHeld => ?_)
   clear hK K; try simp only [Act.put, aP1, aP2, aP3]
   refine E_ready [16] (by kernel_rfl) (by simp) ?_
   refine AllE.cons (o := ⟨some 64, _, _, _, _, _⟩) rfl (fun K hK => ?_) AllE.nil
   go_simp; go_at_call 120; refine (appendString_any A2 c2 (numsF [base, (own : Int) + 1 + (j : Int)]) pl _ HR2'.out (by have := numsF_len [base, (own : Int) + 1 + (j : Int)]; simp at this; omega) (by omega)).mono ?_
   rintro e4 w9 ⟨A4, c4, rfl, h41, h42, ho4, hx4⟩
   rw [← HBD.out] at h41 ho4 ⊢
   have X9 : Hid (Ext wr w9) := hJ (X7'.out.trans hx4)
   have HR4 := hJ ho4.row
   clear ho4 hx4; have t0 : w9.cell? ⟨p, 0, none⟩ = some (.int .i64 self) := by rw [X9.out.cell (by exact hpr)]; exact p0
   have t1 : w9.cell? ⟨p, 1, none⟩ = some (.slice Av vs.length cv) := by rw [X9.out.cell (by exact hpr)]; exact p1
   have t2 : w9.cell? ⟨p, 2, none⟩ = some (.int .i64 base) := by rw [X9.out.cell (by exact hpr)]; exact p2
   have t3 : w9.cell? ⟨p, 3, none⟩ = some (.slice Al log.length cl) := by rw [X9.out.cell (by exact hpr)]; exact p3
   have t4 : w9.cell? ⟨p, 4, none⟩ = some (.int .i64 stable) := by rw [X9.out.cell (by exact hpr)]; exact p4
   have t5 : w9.cell? ⟨p, 5, none⟩ = some (.int .i64 sent) := by rw [X9.out.cell (by exact hpr)]; exact p5
   have t6 : w9.cell? ⟨p, 6, none⟩ = some (.slice Ap pend.length cp) := by rw [X9.out.cell (by exact hpr)]; exact p6
   have t7 : w9.cell? ⟨p, 7, none⟩ = some (.slice Am marks.length cm) := by rw [X9.out.cell (by exact hpr)]; exact p7
   have t8 : w9.cell? ⟨p, 8, none⟩ = some (.slice Af fls.length cf) := by rw [X9.out.cell (by exact hpr)]; exact p8
   clear hHeld; refine hK.out _ _ ⟨t0, t1, t2, t3, t4, t5, t6, t7, t8⟩ (fun hHeld => ?_)
   clear hK K; try simp only [Act.put, aP1, aP2, aP3]
   refine E_tail (by rfl) (by kernel_rfl) ?_
   go_wp2_with fail
   refine (send_any MM B col' p sq 11 A4 c4 bd w9 (HC.out.ext X9.out) HR4.out hbl (by decide) (by have := HKM.out.2; rw [HMM.out]; simp only at this ⊢; omega)).mono ?_
   rintro en w5 ⟨m5, col5, rfl, hc5, hm5, hs5⟩
   have S5 : Hid (Stp B [1, 2, 3, 4, 5, 7] col7 w7 col5 w5) := hJ (HS.out.trans ((Stp.ext' HC.out.Bsz X9.out).trans hs5))
   have hjn : j + 1 ≤ followN M7.b.st := by have := HN7.out; omega
   go_wp2; go_roundw
   case rel => exact ⟨j + 1, m5, col5, by go_num, hjn, hJ hc5, hJ (by rw [hm5, follow_succ, ← HMJ.out, HST.out]), S5⟩
   case measure => simp [intOf]; omega
  ·have hd1 : decide ((own : Int) + 1 + (j : Int) ≤ sent) = false := by simpa using hc1
   have hjn : j = followN M7.b.st := by have := HN7.out; omega
   subst hjn
   go_wp2; go_end0; rw [HFF7.out, ← HMJ.out]
   exact ⟨MM, col', rfl, HC.out, rfl, S7.out.trans HS.out⟩
end Go.Proofs.YtponbabbabnaeaaGreat
namespace Go.Proofs.YtponbabbabnaeaaGreat
theorem follow_valid {a b : Vw} (h : followB a b = true) : validB b.1 b.2 = true ∧ b.1 = a.1 + 1 := by
 unfold followB at h
 simp only [decide_eq_true_eq] at h
 have h1 := nextF_inv h
 exact ⟨h1.2.2.2.2.2.2.2.2, h1.2.1⟩
theorem validVs_inv {l : List Vw} (h : validVs l = true) : 1 ≤ l.length ∧ l.length ≤ 2000 ∧ validB (vwAt l 0).1 (vwAt l 0).2 = true ∧ ∀ i, i < l.length - 1 → followB (vwAt l i) (vwAt l (i + 1)) = true := by
 unfold validVs at h
 simp only [Bool.and_eq_true, decide_eq_true_eq, List.all_eq_true, List.mem_range] at h
 exact ⟨h.1, h.2.1, h.2.2.1, h.2.2.2⟩
theorem validVs_at {l : List Vw} (h : validVs l = true) : ∀ i, i < l.length → validB (vwAt l i).1 (vwAt l i).2 = true := by
 obtain ⟨h1, h2, h3, h4⟩ := validVs_inv h
 intro i hi
 match i with
 | 0 => exact h3
 | i + 1 => exact (follow_valid (h4 i (by omega))).1
theorem validVs_last {l : List Vw} (h : validVs l = true) : validB (lastV l).1 (lastV l).2 = true := validVs_at h _ (by have := (validVs_inv h).1; omega)
theorem encL_bound {xs : List Int} (h : ∀ x ∈ xs, I64 x) : (encL xs).length ≤ 11 * xs.length := by
 have := encL_len h xs.length
 rwa [List.take_length] at this
theorem encV_bound (n : Int) (xs : List Int) : (encV n xs).length ≤ 200 := by
 unfold encV
 split
 ·next h =>
  have h1 := validB_len h
  have h2 := validB_num h
  have h3 : ∀ x ∈ xs, I64 x := by
   intro x hx
   unfold validB at h
   simp only [Bool.and_eq_true] at h
   have := ((idsB_iff (m := 16)).1 h.2).2.2.2 x hx
   unfold I64; omega
  have h4 := encL_bound h3
  have h5 := encU_len10 (v := n.toNat) (by unfold U64; omega)
  have h6 := encU_len10 (v := xs.length) (by unfold U64; omega)
  simp only [List.length_append]
  omega
 ·simp
theorem log_pay {l : List Ent} (h : validLog l = true) : ∀ e ∈ l, e.p.length ≤ 6000 := by
 intro e he
 obtain ⟨i, hi, rfl⟩ := List.mem_iff_getElem.1 he
 have h1 := (vlog_inv h).2 i hi
 rw [okAtL_eq (List.getElem?_eq_getElem hi)] at h1
 unfold okEnt at h1
 split at h1
 ·simp only [Bool.and_eq_true] at h1
  have h2 := h1.2
  unfold isViewE at h2
  simp only [Bool.and_eq_true, decide_eq_true_eq] at h2
  have h3 := congrArg Ent.p h2.2.2
  unfold viewEnt at h3
  simp only at h3
  rw [h3]
  have := encV_bound (decV (l[i]).p).1 (decV (l[i]).p).2.1
  omega
 ·simp only [Bool.and_eq_true, decide_eq_true_eq] at h1
  exact h1.2.1
theorem based_pay {l : List Ent} {b : Int} (h : basedB l b = true) : ∀ e ∈ l, e.p.length ≤ 6000 := by
 unfold basedB at h
 split at h
 ·intro e he
  simp only [decide_eq_true_eq] at h
  have : l = [] := List.eq_nil_of_length_eq_zero h
  subst this; simp at he
 ·simp only [Bool.and_eq_true] at h
  exact log_pay h.2.1
theorem lists_inv {s : St} (h : listsB s = true) : (s.marks.length = 0 ∨ (openB s = true ∧ leadB s = true)) ∧ (s.fls.length = 0 ∨ (openB s = false ∧ leadB s = true)) ∧ (∀ i x, s.marks[i]? = some x → okMark s i x = true) ∧ ∀ i f, s.fls[i]? = some f → okFl s i f = true := by
 unfold listsB at h
 simp only [Bool.and_eq_true, Bool.or_eq_true, decide_eq_true_eq, List.all_eq_true, List.mem_range, Bool.not_eq_true'] at h
 obtain ⟨h1, h2, h3, h4⟩ := h
 refine ⟨h1, h2, fun i x hx => ?_, fun i f hf => ?_⟩
 ·have := h3 i (List.getElem?_eq_some_iff.1 hx).1
  unfold okMarkAt at this; rw [hx] at this; exact this
 ·have := h4 i (List.getElem?_eq_some_iff.1 hf).1
  unfold okFlAt at this; rw [hf] at this; exact this
theorem ok_valid {s : St} (h : validS s = true) : OkS s := by
 obtain ⟨h1, h2, h3, h4, h5, h6, h7, h8, h9, h10, h11, h12, h13⟩ := validS_inv h
 refine ⟨(validVs_len h2).1, h8, h9, h7, h4, h11, h10, basedB_len h5, based_pay h5, h12, fun x hx => ?_, validVs_last h2⟩
 obtain ⟨i, hi, rfl⟩ := List.mem_iff_getElem.1 hx
 have := (lists_inv h13).2.2.1 i _ (List.getElem?_eq_getElem hi)
 unfold okMark at this
 simp only [Bool.and_eq_true, decide_eq_true_eq] at this
 exact this.2.2.2
end Go.Proofs.YtponbabbabnaeaaGreat
namespace Go.Proofs.YtponbabbabnaeaaGreat
open Go.RowKit
def GivesT (w : World) (r : Cs) (en : Ending) (w' : World) : Prop :=
 ∃ m : CM, en = .returned (.tuple #[.agg m.b.cells, .slice m.Ak m.pk.length m.ck, .slice m.Ad m.dl.length m.cd]) ∧ m.cs = r ∧ m.b.Reads w' ∧ m.b.Fits ∧ pkE.Box w' m.Ak m.pk ∧ Row w' m.Ad (entE.cells m.dl) ∧ Ext w w' ∧ m.b.New w.heap.size ∧ NewAt w.heap.size m.Ad (entE.cells m.dl)
theorem nine_far {w : World} {r q i : Nat} {a0 a1 a2 a3 a4 a5 a6 a7 a8 : Value} (h : q ≠ r) : ((((((((((w.setCell ⟨r, 0, none⟩ (a0)).setCell ⟨r, 1, none⟩ (a1)).setCell ⟨r, 2, none⟩ (a2)).setCell ⟨r, 3, none⟩ (a3)).setCell ⟨r, 4, none⟩ (a4)).setCell ⟨r, 5, none⟩ (a5)).setCell ⟨r, 6, none⟩ (a6)).setCell ⟨r, 7, none⟩ (a7)).setCell ⟨r, 8, none⟩ (a8))).drew.cell? ⟨q, i, none⟩ = w.cell? ⟨q, i, none⟩ := by
 have f : ∀ (W : World) (i' : Nat) (v : Value), (W.setCell ⟨r, i', none⟩ v).cell? ⟨q, i, none⟩ = W.cell? ⟨q, i, none⟩ := fun W i' v => World.cell?_setCell_far W _ _ v (Ne.symm h)
 have g : ∀ W : World, W.drew.cell? ⟨q, i, none⟩ = W.cell? ⟨q, i, none⟩ := fun _ => rfl
 rw [g, f, f, f, f, f, f, f, f, f]
theorem tick_out {w wE W : World} {B p : Nat} {col col' : Nat → Nat} {m : CM} {r : Cs} (h : CS wE B col p m) (s : Stp w.heap.size [8] col wE col' W) (hr : m.cs = r) (hx : Ext w W) (hc : ∀ k, k < w.heap.size → col k = 8) : GivesT w r (.returned (.tuple #[.agg m.b.cells, .slice m.Ak m.pk.length m.ck, .slice m.Ad m.dl.length m.cd])) W := by
 refine ⟨m, rfl, hr, ?_, h.fits, ⟨?_, fun k hk => ⟨(h.ki k hk).1, fun r hr => ?_⟩⟩, s.row h.dl.row (h.dc.row h.dl) (by simp), hx, h.lies.new hc, (h.dc.row h.dl).new hc (by decide)⟩
 ·have := h.lies
  exact ⟨⟨s.row this.vs.1 this.vc (by simp), fun v hv => ⟨(this.vs.2 v hv).1, fun r hr => by have hr' := hr; simp only [viewE, List.mem_cons, List.not_mem_nil, or_false] at hr; subst hr; exact s.row ((this.vs.2 v hv).2 _ hr') (this.vi v hv) (by simp)⟩⟩, s.row this.log.row (this.lc.row this.log) (by simp), s.row this.pend this.pc (by simp), s.row this.marks.row (this.mc.row this.marks) (by simp), s.row this.fls.row (this.fc.row this.fls) (by simp), fun f hf => ⟨(this.fi f hf).1, fun r hr => by simp only [flE, List.mem_cons, List.not_mem_nil, or_false] at hr; subst hr; exact s.row (this.fi f hf).2.1 (this.fi f hf).2.2 (by simp)⟩⟩
 ·exact s.row h.pk.row (h.kc.row h.pk) (by simp)
 ·simp only [pkE, List.mem_cons, List.not_mem_nil, or_false] at hr
  subst hr
  exact s.row (h.ki k hk).2.1 (h.ki k hk).2.2 (by simp)
theorem cs_new {w : World} {B : Nat} {col : Nat → Nat} {b : BM} (hl : b.Lies w B col) (hf : b.Fits) (hp : b.pend.length ≤ b.cp) (hB : B ≤ w.heap.size) (v : Value) (t : TypeId) :
  CS ((w.alloc (.cells (⟨b, none, 0, [], none, 0, []⟩ : CM).cells 86)).alloc (.cells #[v] t)) B (paint (paint col w.heap.size 1) (w.heap.size + 1) 8) w.heap.size ⟨b, none, 0, [], none, 0, []⟩ := by
 have e : Ext w ((w.alloc (.cells (⟨b, none, 0, [], none, 0, []⟩ : CM).cells 86)).alloc (.cells #[v] t)) := (Ext.new _ _).trans (Ext.new _ _)
 refine ⟨(BIs.new _ _ _).ext (Ext.new _ _), by rw [paint_old (by omega), paint_new (Nat.le_refl _)], hB, hl.ext e (fun k hk => by rw [paint_old (by omega), paint_old hk]), Elem.Own.nil _ _, fun q hq => by simp [Value.ownBlock] at hq, fun k hk => by simp at hk, Elem.Own.nil _ _, fun q hq => by simp [Value.ownBlock] at hq, hf, hp⟩
end Go.Proofs.YtponbabbabnaeaaGreat
