/- Part 15 of the proof: contracts of functions that the statement reaches. Conditions: as each theorem says. -/
import Derived.Test.YtponbabbabnaeaaGreatQa14
namespace Go.Proofs.YtponbabbabnaeaaGreat
open Go.RowKit
theorem own_len (A : Option Addr) (k c : Nat) (l : List Ent) (o : Int) (w : World) (h : Row w A (entE.cells l)) (hn : l.length ≤ 1000000000) (hk : k = l.length) :
    Calls Tryz.prog 91 #[.slice A k c, .int .i64 o] w fun e w' => e = .returned (.int .i64 (ownN l o)) ∧ Ext w w' := by subst hk; exact own_any A c l o w h hn
theorem subA_block {A : Option Addr} {l c k : Nat} {q : Addr} (h : subA A l c k = some q) : ∃ a, A = some a ∧ a.block = q.block := by
  unfold subA at h
  split at h
  · exact ⟨q, h, rfl⟩
  · rcases A with _ | a
    · cases h
    · simp only [Option.map_some, Option.some.injEq] at h
      refine ⟨a, rfl, ?_⟩
      rw [← h]; unfold Addr.add; split <;> rfl
theorem ColR.sub {col : Nat → Nat} {k : Nat} {A : Option Addr} {xs ys : List Value} {l c kk : Nat} (h : ColR col k A xs) (hne : ys ≠ [] → xs ≠ []) : ColR col k (subA A l c kk) ys := by
  intro q hy hq
  obtain ⟨a, ha, hb⟩ := subA_block hq
  rw [← hb]; exact h a (hne hy) ha
theorem raiseF_no {c : Cs} {n : Int} (h : n ≤ c.s.stable) : raiseF c n = c := by unfold raiseF; rw [if_pos h]
theorem CS.redl {B p : Nat} {col col' : Nat → Nat} {w w' : World} {m : CM} {b' : BM} (h : CS w B col p m) (s : Stp B [1, 7] col w col' w') {A : Option Addr} {c : Nat} {l : List Ent} (hb : BIs w' p ({ m with b := b', Ad := A, cd := c, dl := l } : CM).cells 86) (hl : b'.Lies w' B col') (hf : b'.Fits) (hcp : b'.pend.length ≤ b'.cp) (ho : entE.Own w' B (.slice A l.length c) l) (hc : ColV col' 7 (.slice A l.length c)) :
    CS w' B col' p { m with b := b', Ad := A, cd := c, dl := l } :=
  ⟨hb, (s.hue p h.lt).trans h.pc, h.bp, hl, s.own h.pk h.kc (by simp), s.colV h.pk h.kc, h.kiK s (by simp), ho, hc, hf, hcp⟩
set_option maxRecDepth 100000 in
set_option maxHeartbeats 2000000 in
theorem raise_any (m : CM) (B : Nat) (col : Nat → Nat) (p : Nat) (nI : Int) (w : World) (h : CS w B col p m) (hs : 0 ≤ m.b.stable) (hn : nI ≤ m.b.log.length) (hdl : m.dl.length ≤ 100000)
    (hpd : ownN (cutL m.b.log m.b.stable nI) m.b.self ≤ m.b.pend.length) :
    Calls Tryz.prog 171 #[.pointer (some ⟨p, 0, none⟩), .int .i64 nI] w (Does B col p w (raiseF m.cs nI)) := by
  have H := Lib.hid h
  have hpl := h.lt
  have q0 := h.cell 0; have q3 := h.cell 3; have q4 := h.cell 4; have q6 := h.cell 6; have q10 := h.cell 10
  have f10 := h.free 10
  have hfl := h.fits.log
  have hfc := h.fits.cl
  have hcp := h.cp
  clear h
  by_cases hle : nI ≤ m.b.stable
  · have HF := Lib.hid (raiseF_no (c := m.cs) hle)
    obtain ⟨⟨self, base, stable, sent, Av, cv, vs, Al, cl, log, Ap, cp, pend, Am, cm, marks, Af, cf, fls⟩, Ak, ck, pk, Ad, cd, dl⟩ := m
    simp only at hle
    replace q4 : w.cell? ⟨p, 4, none⟩ = some (.int .i64 stable) := q4
    clear q0 q3 q6 q10 hpd
    go_enter Tryz.func171, Tryz.ntmps171
    go_wp2
    (try simp only [Exit.inBlock, Exit.then]); refine bodyPost_ret (results_none rfl _ _ _) rfl ?_
    rw [HF.out]
    exact ⟨_, col, rfl, H.out, rfl, Stp.refl _ _ _ _⟩
  · obtain ⟨st, hst⟩ : ∃ st : Nat, m.b.stable = (st : Int) := ⟨m.b.stable.toNat, by omega⟩
    obtain ⟨n, rfl⟩ : ∃ n : Nat, nI = (n : Int) := ⟨nI.toNat, by omega⟩
    have HF : Hid (raiseF m.cs (n : Int) = ⟨{ m.b.st with pend := m.b.pend.drop (ownN ((m.b.log.take n).drop st) m.b.self), stable := n }, m.pk.map PkM.v, m.dl ++ (m.b.log.take n).drop st⟩) := Lib.hid (by
      unfold raiseF
      rw [if_neg (by simpa [CM.cs, BM.st] using hle)]
      simp [CM.cs, BM.st, cutL, hst])
    have hpd' : ownN ((m.b.log.take n).drop st) m.b.self ≤ m.b.pend.length := by simpa [cutL, hst] using hpd
    have hlt : st < n := by omega
    obtain ⟨⟨self, base, stable, sent, Av, cv, vs, Al, cl, log, Ap, cp, pend, Am, cm, marks, Af, cf, fls⟩, Ak, ck, pk, Ad, cd, dl⟩ := m
    simp only at hst hn hdl hpd' hfl hfc hcp HF
    subst hst
    replace q0 : w.cell? ⟨p, 0, none⟩ = some (.int .i64 self) := q0
    replace q3 : w.cell? ⟨p, 3, none⟩ = some (.slice Al log.length cl) := q3
    replace q4 : w.cell? ⟨p, 4, none⟩ = some (.int .i64 (st : Int)) := q4
    replace q6 : w.cell? ⟨p, 6, none⟩ = some (.slice Ap pend.length cp) := q6
    replace q10 : w.cell? ⟨p, 10, none⟩ = some (.slice Ad dl.length cd) := q10
    have hnl : n ≤ log.length := by omega
    have HCL : Hid (n - st = ((log.take n).drop st).length) := Lib.hid (by rw [List.length_drop, List.length_take]; omega)
    have HPD := Lib.hid hpd'
    obtain ⟨k, hk⟩ : ∃ k, k = ownN ((log.take n).drop st) self := ⟨_, rfl⟩
    have HK := Lib.hid hk
    have hkp : k ≤ pend.length := by rw [hk]; exact hpd'
    clear hpd hpd' hle hn hs
    have hslm : ∀ W, (Instr.slice 23 (.slice Al log.length cl) (some (.int .i64 (st : Int))) (some (.int .i64 (n : Int))) (some (.int .i64 (n : Int)))).run Tryz.prog W = .ok (.slice (subA Al st n 4) (n - st) (n - st)) W := fun W => entE.slice_lhm Al log.length cl st n n _ _ _ rfl rfl rfl (by omega) (Nat.le_refl _) (by omega) W
    have HRC : Hid (Row w (subA Al st n 4) (entE.cells ((log.take n).drop st))) := Lib.hid (by
      have h1 : Row w Al (entE.cells (log.take n)) := Elem.row_upto H.out.lies.log.row n
      exact Elem.row_from (c := n) h1 (by rw [List.length_take]; omega) st)
    have hd : decide ((n : Int) ≤ (st : Int)) = false := by simp; omega
    clear hk
    go_enter Tryz.func171, Tryz.ntmps171
    go_wp2
    refine E_begin 14 (fun w' => w'.cell? ⟨p, 3, none⟩ = some (.slice Al log.length cl) ∧ w'.cell? ⟨p, 4, none⟩ = some (.int .i64 (st : Int))) (by kernel_rfl) ⟨by simpa using q3, by simpa using q4⟩ (fun hHeld => ?_)
    refine E_tk 0 (oi := ⟨some 12, _, _, _, _, _⟩) (v := ?_) ?_ ?_
    rotate_left
    · (intro w9 hSw; (try dsimp only at hSw); go_simp <;> with_reducible rfl)
    try simp only [Act.put, l1, l2, l3]
    refine E_tk 1 (oi := ⟨some 13, _, _, _, _, _⟩) (v := ?_) ?_ ?_
    rotate_left
    · (intro w9 hSw; (try dsimp only at hSw); go_simp <;> with_reducible rfl)
    try simp only [Act.put, l1, l2, l3]
    refine E_tk 2 (oi := ⟨some 14, _, _, _, _, _⟩) (v := ?_) ?_ ?_
    rotate_left
    · (intro w9 hSw; (try dsimp only at hSw); go_simp <;> with_reducible rfl)
    try simp only [Act.put, l1, l2, l3]
    refine E_tk 3 (oi := ⟨some 15, _, _, _, _, _⟩) (v := ?_) ?_ ?_
    rotate_left
    · (intro w9 hSw; (try dsimp only at hSw); go_simp <;> with_reducible rfl)
    try simp only [Act.put, l1, l2, l3]
    refine E_tk 4 (oi := ⟨some 16, _, _, _, _, _⟩) (v := ?_) ?_ ?_
    rotate_left
    · (intro w9 hSw; (try dsimp only at hSw); go_simp <;> with_reducible rfl)
    try simp only [Act.put, l1, l2, l3]
    refine E_tk 5 (oi := ⟨some 17, _, _, _, _, _⟩) (v := ?_) ?_ ?_
    rotate_left
    · (intro w9 hSw; (try dsimp only at hSw); go_simp <;> with_reducible rfl)
    try simp only [Act.put, l1, l2, l3]
    refine E_tk 6 (oi := ⟨some 18, _, _, _, _, _⟩) (v := ?_) ?_ ?_
    rotate_left
    · (intro w9 hSw; (try dsimp only at hSw); go_simp <;> with_reducible rfl)
    try simp only [Act.put, l1, l2, l3]
    refine E_tk 7 (oi := ⟨some 19, _, _, _, _, _⟩) (v := ?_) ?_ ?_
    rotate_left
    · (intro w9 hSw; (try dsimp only at hSw); go_simp <;> with_reducible rfl)
    try simp only [Act.put, l1, l2, l3]
    refine E_tk 8 (oi := ⟨some 20, _, _, _, _, _⟩) (v := ?_) ?_ ?_
    rotate_left
    · (intro w9 hSw; (try dsimp only at hSw); go_simp <;> with_reducible rfl)
    try simp only [Act.put, l1, l2, l3]
    refine E_tk 9 (oi := ⟨some 21, _, _, _, _, _⟩) (v := ?_) ?_ ?_
    rotate_left
    · (intro w9 hSw; (try dsimp only at hSw); go_simp <;> with_reducible rfl)
    try simp only [Act.put, l1, l2, l3]
    refine E_tk 10 (oi := ⟨some 22, _, _, _, _, _⟩) (v := ?_) ?_ ?_
    rotate_left
    · (intro w9 hSw; (try dsimp only at hSw); go_simp <;> with_reducible rfl)
    try simp only [Act.put, l1, l2, l3]
    refine E_tk 11 (oi := ⟨some 23, _, _, _, _, _⟩) (v := ?_) ?_ ?_
    rotate_left
    · (intro w9 hSw; (try dsimp only at hSw); go_simp <;> with_reducible rfl)
    try simp only [Act.put, l1, l2, l3]
    refine E_tk 12 (oi := ⟨some 24, _, _, _, _, _⟩) (v := ?_) ?_ ?_
    rotate_left
    · (intro w9 hSw; (try dsimp only at hSw); go_simp <;> with_reducible rfl)
    try simp only [Act.put, l1, l2, l3]
    refine E_tk 13 (oi := ⟨some 4, _, _, _, _, _⟩) (v := ?_) ?_ ?_
    rotate_left
    · (intro w9 hSw; (try dsimp only at hSw); go_simp <;> with_reducible rfl)
    try simp only [Act.put, l1, l2, l3]
    refine E_end (by kernel_rfl) (by rfl) ?_
    have HOD : Hid (entE.OB w.drew B (.slice Ad dl.length cd) dl) := Lib.hid ⟨H.out.dl.ext Ext.drew1, fun _ _ => ⟨trivial, fun r hr => by simp [entE] at hr⟩⟩
    go_wp2_with (first
      | (at_builtin; refine push_e entE rfl (.tmp 29) (.tmp 30) rfl _ B _ dl (by rfl) _ _ _ ((log.take n).drop st) (by rfl) HCL.out (by exact HRC.out.ext Ext.drew1) HOD.out ent_good (by omega) (by exact H.out.Bsz) ?_; intro v2 w2 ho2 hg2 hs2; obtain ⟨ND, hnd⟩ : ∃ l, l = dl ++ ((log.take n).drop st) := ⟨_, rfl⟩; rw [← hnd] at ho2; have HND := Lib.hid hnd; clear hnd; obtain ⟨A2, c2, rfl, h21, h22, _⟩ := ho2.slice; have BX2 : Hid (BIs w2 p (⟨⟨self, base, (st : Int), sent, Av, cv, vs, Al, cl, log, Ap, cp, pend, Am, cm, marks, Af, cf, fls⟩, Ak, ck, pk, Ad, cd, dl⟩ : CM).cells 86) := Lib.hid ((H.out.box.ext Ext.drew1).same (hg2.block p (by exact hpl) (fun e => by have := H.out.dc p e.symm; rw [H.out.pc] at this; cases this))); have u10 : w2.cell? ⟨p, 10, none⟩ = some (.slice Ad dl.length cd) := BX2.out.cell 10; have v10 := BX2.out.free 10))
    have S1 : Hid (Stp B [1, 7] col w (paint col w.heap.size 7) w2) := Lib.hid ((((Stp.ext' (cs := [1, 7]) H.out.Bsz Ext.drew1).trans (Stp.grew hg2 H.out.Bsz (fun q hq => (H.out.dl.lt q hq).1) H.out.dc (by simp))).recol (fun k hk => paint_old hk)))
    have HCV : Hid (ColV (paint col w.heap.size 7) 7 (.slice A2 ND.length c2)) := Lib.hid (colV_stems hs2 H.out.dc (Nat.le_refl _) (fun q hq => (H.out.dl.lt q hq).2))
    have HO2 := Lib.hid ho2
    have hpc2 : Hid ((paint col w.heap.size 7) p = 1) := Lib.hid ((S1.out.hue p hpl).trans H.out.pc)
    have W23 : Hid (Wrote p w2 (w2.setCell ⟨p, 10, none⟩ (.slice A2 ND.length c2))) := Lib.hid (Wrote.set _ _ _ _)
    have BX3 : Hid (BIs (w2.setCell ⟨p, 10, none⟩ (.slice A2 ND.length c2)) p (⟨⟨self, base, (st : Int), sent, Av, cv, vs, Al, cl, log, Ap, cp, pend, Am, cm, marks, Af, cf, fls⟩, Ak, ck, pk, A2, c2, ND⟩ : CM).cells 86) := Lib.hid (BX2.out.set 10 _)
    clear ho2 hg2 hs2 u10 v10 BX2
    generalize w2.setCell ⟨p, 10, none⟩ (.slice A2 ND.length c2) = w3 at *
    have S3 : Hid (Stp B [1, 7] col w (paint col w.heap.size 7) w3) := Lib.hid (S1.out.trans (Stp.wrote W23.out H.out.bp (Nat.le_trans H.out.Bsz S1.out.size) (by rw [hpc2.out]; simp)))
    have HO3 : Hid (entE.Own w3 B (.slice A2 ND.length c2) ND) := Lib.hid (HO2.out.1.keep fun q hq hlt => W23.out.blk hlt (fun e => by subst e; have := HCV.out q hq; rw [hpc2.out] at this; cases this))
    have HRC3 : Hid (Row w3 (subA Al st n 4) (entE.cells ((log.take n).drop st))) := Lib.hid (S3.out.row HRC.out ((H.out.lies.lc.row (xs := entE.cells ((log.take n).drop st)) H.out.lies.log).sub (fun h => h)) (by simp))
    have u0 : w3.cell? ⟨p, 0, none⟩ = some (.int .i64 self) := BX3.out.cell 0
    have u6 : w3.cell? ⟨p, 6, none⟩ = some (.slice Ap pend.length cp) := BX3.out.cell 6
    have hp3 : p < w3.heap.size := BX3.out.lt
    have hslp : ∀ W, (Instr.slice 24 (.slice Ap pend.length cp) (some (.int .i64 (k : Int))) none none).run Tryz.prog W = .ok (.slice (subA Ap k cp 1) (pend.length - k) (cp - k)) W := fun W => strE.slice_l Ap pend.length cp k _ rfl hkp W
    refine E_begin 14 (fun w' => w'.cell? ⟨p, 6, none⟩ = some (.slice Ap pend.length cp) ∧ w'.cell? ⟨p, 0, none⟩ = some (.int .i64 self)) (by kernel_rfl) ⟨by simpa using u6, by simpa using u0⟩ (fun hHeld => ?_)
    refine E_tk 0 (oi := ⟨some 34, _, _, _, _, _⟩) (v := ?_) ?_ ?_
    rotate_left
    · (intro w9 hSw; (try dsimp only at hSw); go_simp <;> with_reducible rfl)
    try simp only [Act.put, l1, l2, l3]
    refine E_tk 1 (oi := ⟨some 35, _, _, _, _, _⟩) (v := ?_) ?_ ?_
    rotate_left
    · (intro w9 hSw; (try dsimp only at hSw); go_simp <;> with_reducible rfl)
    try simp only [Act.put, l1, l2, l3]
    refine E_tk 2 (oi := ⟨some 36, _, _, _, _, _⟩) (v := ?_) ?_ ?_
    rotate_left
    · (intro w9 hSw; (try dsimp only at hSw); go_simp <;> with_reducible rfl)
    try simp only [Act.put, l1, l2, l3]
    refine E_tk 3 (oi := ⟨some 37, _, _, _, _, _⟩) (v := ?_) ?_ ?_
    rotate_left
    · (intro w9 hSw; (try dsimp only at hSw); go_simp <;> with_reducible rfl)
    try simp only [Act.put, l1, l2, l3]
    refine E_tk 4 (oi := ⟨some 38, _, _, _, _, _⟩) (v := ?_) ?_ ?_
    rotate_left
    · (intro w9 hSw; (try dsimp only at hSw); go_simp <;> with_reducible rfl)
    try simp only [Act.put, l1, l2, l3]
    refine E_tk 5 (oi := ⟨some 39, _, _, _, _, _⟩) (v := ?_) ?_ ?_
    rotate_left
    · (intro w9 hSw; (try dsimp only at hSw); go_simp <;> with_reducible rfl)
    try simp only [Act.put, l1, l2, l3]
    refine E_tk 6 (oi := ⟨some 40, _, _, _, _, _⟩) (v := ?_) ?_ ?_
    rotate_left
    · (intro w9 hSw; (try dsimp only at hSw); go_simp <;> with_reducible rfl)
    try simp only [Act.put, l1, l2, l3]
    refine E_tk 7 (oi := ⟨some 41, _, _, _, _, _⟩) (v := ?_) ?_ ?_
    rotate_left
    · (intro w9 hSw; (try dsimp only at hSw); go_simp <;> with_reducible rfl)
    try simp only [Act.put, l1, l2, l3]
    refine E_tk 8 (oi := ⟨some 42, _, _, _, _, _⟩) (v := ?_) ?_ ?_
    rotate_left
    · (intro w9 hSw; (try dsimp only at hSw); go_simp <;> with_reducible rfl)
    try simp only [Act.put, l1, l2, l3]
    refine E_tk 9 (oi := ⟨some 43, _, _, _, _, _⟩) (v := ?_) ?_ ?_
    rotate_left
    · (intro w9 hSw; (try dsimp only at hSw); go_simp <;> with_reducible rfl)
    try simp only [Act.put, l1, l2, l3]
    refine E_tk 10 (oi := ⟨some 44, _, _, _, _, _⟩) (v := ?_) ?_ ?_
    rotate_left
    · (intro w9 hSw; (try dsimp only at hSw); go_simp <;> with_reducible rfl)
    try simp only [Act.put, l1, l2, l3]
    refine E_tk 11 (oi := ⟨some 45, _, _, _, _, _⟩) (v := ?_) ?_ ?_
    rotate_left
    · (intro w9 hSw; (try dsimp only at hSw); go_simp <;> with_reducible rfl)
    try simp only [Act.put, l1, l2, l3]
    refine E_ready [12] (by kernel_rfl) (by simp) ?_
    refine AllE.cons (o := ⟨some 46, _, _, _, _, _⟩) rfl (fun K hK => ?_) AllE.nil
    go_simp
    go_at_call 91
    refine (own_len (subA Al st n 4) (n - st) (n - st) ((log.take n).drop st) self _ (by exact HRC3.out.ext Ext.drew1) (by have := HCL.out; omega) HCL.out).mono ?_
    rintro en w4 ⟨rfl, hx4⟩
    rw [← HK.out]
    have X4 : Hid (Ext w3 w4) := Lib.hid (Ext.drew1.trans hx4)
    clear hx4
    have r6 : w4.cell? ⟨p, 6, none⟩ = some (.slice Ap pend.length cp) := by rw [X4.out.cell (by exact hp3)]; exact u6
    have r0 : w4.cell? ⟨p, 0, none⟩ = some (.int .i64 self) := by rw [X4.out.cell (by exact hp3)]; exact u0
    clear hHeld
    refine hK.out _ _ ⟨r6, r0⟩ (fun hHeld => ?_)
    clear hK K
    try simp only [Act.put, l1, l2, l3]
    refine E_tk 13 (oi := ⟨some 47, _, _, _, _, _⟩) (v := ?_) ?_ ?_
    rotate_left
    · (intro w9 hSw; (try dsimp only at hSw); go_simp <;> with_reducible rfl)
    try simp only [Act.put, l1, l2, l3]
    refine E_tail (by rfl) (by kernel_rfl) ?_
    have BX4 := Lib.hid (BX3.out.ext X4.out)
    have g6 := BX4.out.free 6
    have g4 := BX4.out.free 4
    have r4 : w4.cell? ⟨p, 4, none⟩ = some (.int .i64 (st : Int)) := BX4.out.cell 4
    go_wp2
    go_end0
    rw [HF.out]
    have W4F : Wrote p w4 ((w4.setCell ⟨p, 6, none⟩ (.slice (subA Ap k cp 1) (pend.length - k) (cp - k))).setCell ⟨p, 4, none⟩ (.int .i64 (n : Int))) := (Wrote.set _ _ _ _).trans (Wrote.set _ _ _ _)
    have BXF : BIs ((w4.setCell ⟨p, 6, none⟩ (.slice (subA Ap k cp 1) (pend.length - k) (cp - k))).setCell ⟨p, 4, none⟩ (.int .i64 (n : Int))) p (⟨⟨self, base, (n : Int), sent, Av, cv, vs, Al, cl, log, subA Ap k cp 1, cp - k, pend.drop k, Am, cm, marks, Af, cf, fls⟩, Ak, ck, pk, A2, c2, ND⟩ : CM).cells 86 := by
      have := (BX4.out.set 6 (.slice (subA Ap k cp 1) (pend.length - k) (cp - k))).set 4 (.int .i64 (n : Int))
      simp only [CM.cells, List.length_drop]
      exact this
    have SF : Stp B [1, 7] col w (paint col w.heap.size 7) ((w4.setCell ⟨p, 6, none⟩ (.slice (subA Ap k cp 1) (pend.length - k) (cp - k))).setCell ⟨p, 4, none⟩ (.int .i64 (n : Int))) := S3.out.trans ((Stp.ext' (Nat.le_trans H.out.Bsz S3.out.size) X4.out).trans (Stp.wrote W4F H.out.bp (Nat.le_trans H.out.Bsz (Nat.le_trans S3.out.size X4.out.size)) (by rw [hpc2.out]; simp)))
    have L1 := H.out.lies.keep SF (by simp) (by simp) (by simp) (by simp) (by simp)
    refine ⟨⟨⟨self, base, (n : Int), sent, Av, cv, vs, Al, cl, log, subA Ap k cp 1, cp - k, pend.drop k, Am, cm, marks, Af, cf, fls⟩, Ak, ck, pk, A2, c2, ND⟩, paint col w.heap.size 7, rfl, ?_, ?_, SF.mono (cs' := [1, 2, 3, 4, 5, 7]) (by simp)⟩
    · refine H.out.redl SF BXF ?_ ?_ ?_ (HO3.out.ext X4.out |>.keep fun q hq hlt => W4F.blk hlt (fun e => by subst e; have := HCV.out q hq; rw [hpc2.out] at this; cases this)) HCV.out
      · have := L1.repend (A := subA Ap k cp 1) (c := cp - k) (l := pend.drop k) (Elem.row_from L1.pend hcp k) (L1.pc.sub (fun h e => h (by rw [strE.cells_drop, e]; simp)))
        exact ⟨this.vs, this.vc, this.vi, this.log, this.lc, this.pend, this.pc, this.marks, this.mc, this.fls, this.fc, this.fi⟩
      · have hf := H.out.fits
        exact ⟨hf.vs, hf.vx, hf.log, hf.lp, by have := hf.pend; simp at this ⊢; omega, fun q hq => hf.pp q (List.mem_of_mem_drop hq), hf.marks, hf.fls, hf.fl, hf.cl⟩
      · simp only [List.length_drop]; omega
    · simp only [CM.cs, BM.st, HND.out, HK.out]
end Go.Proofs.YtponbabbabnaeaaGreat
