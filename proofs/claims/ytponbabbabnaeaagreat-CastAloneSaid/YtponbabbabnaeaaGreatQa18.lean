/- Part 18 of the proof: contracts of functions that the statement reaches. Conditions: as each theorem says. -/
import Derived.Test.YtponbabbabnaeaaGreatQa17
namespace Go.Proofs.YtponbabbabnaeaaGreat
open Go.RowKit
set_option maxRecDepth 100000 in
theorem last_m (A : Option Addr) (c : Nat) (l : List VwM) (w : World) (h : viewE.Box w A l) (hp : 0 < l.length) (hn : l.length ≤ 1000000000) :
    ∃ v ∈ l, lastV (vws l) = (v.n, v.xs) ∧ Calls Tryz.prog 49 #[.slice A l.length c] w fun e w' => e = .returned (.agg #[.int .i64 v.n, .slice v.A v.xs.length v.c]) ∧ Ext w w' := by
  obtain ⟨j, hj⟩ : ∃ j, l.length = j + 1 := ⟨l.length - 1, by omega⟩
  obtain ⟨b, off, n, X, cx, xs, rfl, hb, c0, c1, HR, h1, h2, HX⟩ := views_at h (show j < l.length by omega)
  have HL := lastV_at (by rw [vws_len]; exact hj) (vws_at HX.out)
  refine ⟨⟨n, X, cx, xs⟩, List.mem_of_getElem? HX.out, HL, ?_⟩
  have hw1 : IntKind.i64.wrap ((l.length : Int) - 1) = (j : Int) := by rw [IntWalk.i64_in _ (by omega)]; omega
  have k1 : (0 : Int) ≤ (j : Int) := by omega
  have k2 : (j : Int) < (l.length : Int) := by omega
  have k3 : j < l.length := by omega
  clear hj h HL
  go_enter Tryz.func49, Tryz.ntmps49
  go_wp2
  exact bodyPost_ret (v := .agg #[.int .i64 n, .slice X xs.length cx]) (by simp [results, Tryz.results49, go_sem]) rfl ⟨rfl, Ext.new _ _⟩
theorem appendEntries_len (A Al : Option Addr) (c cl k : Nat) (body : List UInt8) (log : List Ent) (w : World) (hb : Row w A (bytesV body)) (hbl : body.length ≤ 1000) (hbc : body.length ≤ c ∧ c ≤ maxLen) (hr : Row w Al (entE.cells log)) (hn : log.length ≤ 2000) (hp : ∀ e ∈ log, e.p.length ≤ 6000) (hk : k = log.length) :
    Calls Tryz.prog 52 #[.slice A body.length c, .slice Al k cl] w (GivesB w (body ++ entsF log)) := by subst hk; exact appendEntries_any A Al c cl body log w hb hbl hbc hr hn hp
theorem ents_bound {body : List UInt8} {l : List Ent} (hb : body.length ≤ 1000) (hn : l.length ≤ 2000) (hp : ∀ e ∈ l, e.p.length ≤ 6000) : (body ++ entsF l).length ≤ 100000000 := by
  have h1 := ents_len hp
  have h2 := numsF_len [(l.length : Int)]
  unfold entsF
  simp only [List.length_append, List.length_cons, List.length_nil] at *
  omega
theorem alloc_drew_cell {w : World} {o : Obj} {p i : Nat} (h : p < w.heap.size) : (w.alloc o).drew.cell? ⟨p, i, none⟩ = w.cell? ⟨p, i, none⟩ := World.cell?_alloc_lt _ _ _ h
theorem leadStep_no {c : Cs} {x : Int} (h : x = c.s.self) : leadStep c x = c := by unfold leadStep; rw [if_pos h]
theorem leadStep_in {c : Cs} {x : Int} (h : ¬ x = c.s.self) (hm : markF c.s.marks x = none) : leadStep c x = sendF c x 15 (numsF [c.s.base] ++ entsF c.s.log) := by unfold leadStep; rw [if_neg h, hm]
theorem leadStep_ap {c : Cs} {x st : Int} (h : ¬ x = c.s.self) (hm : markF c.s.marks x = some st) : leadStep c x = sendF c x 12 (numsF [c.s.base, st, c.s.stable] ++ entsF (cutL c.s.log st (min (st + 16) c.s.log.length))) := by unfold leadStep; rw [if_neg h, hm]
set_option maxRecDepth 100000 in
set_option maxHeartbeats 1000000 in
theorem lead_any (m : CM) (B : Nat) (col : Nat → Nat) (p : Nat) (w : World) (h : CS w B col p m) (ok : OkS m.b.st) (hpk : m.pk.length = 0) (hdl : m.dl.length = 0) :
    Calls Tryz.prog 45 #[.pointer (some ⟨p, 0, none⟩)] w (Does B col p w (leadF m.cs)) := by
  have H := Lib.hid h; have OK := Lib.hid ok
  have hpl := h.lt
  clear h ok
  go_enter Tryz.func45, Tryz.ntmps45
  go_wp2_with fail
  refine (take_any m.b #[.slice m.Ak m.pk.length m.ck, .slice m.Ad m.dl.length m.cd] 86 p B col w (by exact H.out.box) H.out.pc H.out.bp H.out.lies H.out.fits OK.out.own OK.out.sent ?_ OK.out.log).mono ?_
  · have h1 := OK.out.pend; have h2 := ownN_take m.b.st.log m.b.st.stable.toNat m.b.st.self
    simp only [BM.st] at h1 h2 ⊢; omega
  rintro en w1 ⟨A1, c1, rfl, hb1, ho1, hc1, hs1⟩
  have OK1 : Hid (OkS (takeF m.b.st)) := Lib.hid (ok_take OK.out)
  obtain ⟨m1, hm1⟩ : ∃ x, x = ({ m with b := { m.b with Al := A1, cl := c1, log := takeL m.b.st (takeN m.b.st) } } : CM) := ⟨_, rfl⟩
  have hcs1 : Hid (m1.cs = { m.cs with s := takeF m.b.st }) := Lib.hid (by rw [hm1]; rfl)
  have hbs1 : Hid (m1.b.st = takeF m.b.st) := Lib.hid (by rw [hm1]; rfl)
  have C1 : Hid (CS w1 B (paint col w.heap.size 2) p m1) := Lib.hid (by
    subst hm1
    obtain ⟨A', c', hv', k1, k2, _⟩ := ho1.slice
    simp only [Value.slice.injEq] at hv'
    have hf := H.out.fits
    have hlp := OK1.out.lp
    have hll := OK1.out.log
    refine ⟨hb1, (hs1.hue p hpl).trans H.out.pc, H.out.bp, H.out.lies.relog hs1 (by simp) (by simp) (by simp) (by simp) ho1 hc1, hs1.own H.out.pk H.out.kc (by simp), hs1.colV H.out.pk H.out.kc, H.out.kiK hs1 (by simp), hs1.own H.out.dl H.out.dc (by simp), hs1.colV H.out.dl H.out.dc, ?_, H.out.cp⟩
    exact ⟨hf.vs, hf.vx, by have : (takeL m.b.st (takeN m.b.st)).length ≤ 2000 := hll; simp only; omega, fun e he => by have := hlp e he; omega, hf.pend, hf.pp, hf.marks, hf.fls, hf.fl, ⟨by simp only; omega, by simp only; omega⟩⟩)
  have hpk1 : m1.pk.length = 0 := by rw [hm1]; exact hpk
  have hdl1 : m1.dl.length = 0 := by rw [hm1]; exact hdl
  have S1 : Hid (Stp B [1, 2, 3, 4, 5, 7] col w (paint col w.heap.size 2) w1) := Lib.hid (hs1.mono (by simp))
  have HLD : Hid (leadF m.cs = (lastV (announceF m1.cs).s.views).2.foldl leadStep (announceF m1.cs)) := Lib.hid (by rw [hcs1.out]; rfl)
  clear hb1 ho1 hc1 hs1 hm1 H OK hpl hpk hdl
  have OKm : Hid (OkS m1.b.st) := Lib.hid (by rw [hbs1.out]; exact OK1.out)
  go_wp2_with fail
  refine (announce_any m1 B _ p w1 C1.out (by have := OKm.out.vs; simpa [BM.st, vws_len] using this) OKm.out.st0 (fun x hx => (OKm.out.mks x hx).2) (by omega) (ok_maj OKm.out).1 (fun n _ => ok_cut OKm.out n)).mono ?_
  rintro en w2 ⟨m2, col2, rfl, hc2, hm2, hs2⟩
  have C2 := Lib.hid hc2; have S2 := Lib.hid (S1.out.trans hs2)
  obtain ⟨k1, k2, k3, k4, k5, k6, k7, k8⟩ := announce_keep m1.cs
  rw [← hm2] at HLD k1 k2 k3 k4 k5 k6 k7 k8
  have HK : Hid (m2.b.log = m1.b.log ∧ m2.b.marks = m1.b.marks ∧ vws m2.b.vs = vws m1.b.vs ∧ m2.pk.length = 0) := Lib.hid ⟨k1, k2, k3, by have := congrArg List.length k7; simp only [CM.cs, List.length_map] at this; omega⟩
  have hlog : m2.b.log.length ≤ 2000 := by rw [HK.out.1]; exact OKm.out.log
  have HLP : Hid (∀ e ∈ m2.b.log, e.p.length ≤ 6000) := Lib.hid (by rw [HK.out.1]; exact OKm.out.lp)
  have HMK : Hid (∀ x ∈ m2.b.marks, 0 ≤ x.2 ∧ x.2 ≤ (m2.b.log.length : Int)) := Lib.hid (by rw [HK.out.1, HK.out.2.1]; exact OKm.out.mks)
  have hvs2 : 0 < m2.b.vs.length := by
    have h1 := OKm.out.vs
    have h2 := congrArg List.length HK.out.2.2.1
    simp only [BM.st, vws_len] at h1 h2; omega
  clear hc2 hs2 hm2 k1 k2 k3 k4 k5 k6 k7 k8
  have hfv := C2.out.fits.vs
  obtain ⟨v, hv, hlv, hcall⟩ := last_m m2.b.Av m2.b.cv m2.b.vs w2 C2.out.lies.vs hvs2 (by omega)
  have HCALL := Lib.hid hcall
  have HXR : Hid (Row w2 v.A (ints v.xs) ∧ ColR col2 0 v.A (ints v.xs)) := Lib.hid ⟨(C2.out.lies.vs.2 v hv).2 (v.A, ints v.xs) (by simp [viewE]), C2.out.lies.vi v hv⟩
  have hx16 : v.xs.length ≤ 16 := by
    have h1 := (ok_maj OKm.out).2.1
    have h2 : lastV m1.b.st.views = (v.n, v.xs) := by rw [← hlv]; show lastV (vws m1.b.vs) = _; rw [HK.out.2.2.1]
    rw [h2] at h1; exact h1
  have HLD2 : Hid (leadF m.cs = v.xs.foldl leadStep m2.cs) := Lib.hid (by
    rw [HLD.out]
    show (lastV (vws m2.b.vs)).2.foldl leadStep m2.cs = _
    rw [hlv])
  have q1 : w2.cell? ⟨p, 1, none⟩ = some (.slice m2.b.Av m2.b.vs.length m2.b.cv) := C2.out.cell 1
  have hfd := field_view1
  clear hcall hv hlv HLD
  obtain ⟨nv, Ax, cx, xs⟩ := v
  simp only at HXR hx16 HLD2 HCALL
  go_wp2_with fail
  refine HCALL.out.mono ?_
  rintro en w3 ⟨rfl, hx3⟩
  have X3 := Lib.hid hx3
  clear hx3 q1
  go_wp2
  go_loopw [21] (fun i wr => ∃ (k : Nat) (m' : CM) (col' : Nat → Nat), k ≤ xs.length ∧ i = .int .i64 k ∧ Hid (CS wr B col' p m') ∧ Hid (m'.cs = (xs.take k).foldl leadStep m2.cs) ∧ Hid (Stp B [1, 2, 3, 4, 5, 7] col2 w2 col' wr)) (fun i _ => xs.length - (intOf i).toNat)
  case atStart => exact ⟨0, m2, col2, Nat.zero_le _, rfl, Lib.hid (C2.out.ext X3.out), Lib.hid rfl, Lib.hid (Stp.ext' C2.out.Bsz X3.out)⟩
  case round =>
    obtain ⟨k, m', col', hk, rfl, HC, HM, HS⟩ := hrel
    by_cases hlt : k < xs.length
    · obtain ⟨bb, off, x, hA, hcx, HE⟩ := (HS.out.row HXR.out.1 HXR.out.2 (by simp)).at_ hlt
      subst hA
      have HFS := Lib.hid (fold_snoc leadStep m2.cs HE.out)
      obtain ⟨l1, l2, l3⟩ := leads_keep (xs.take k) m2.cs
      rw [← HM.out] at l1 l2 l3
      have HKM : Hid (m'.b.st = m2.b.st ∧ m'.pk.length ≤ 16) := Lib.hid ⟨l1, by have := HK.out.2.2.2; simp only [CM.cs, List.length_map, List.length_take] at l3; omega⟩
      have hpr := HC.out.lt
      have q0 := HC.out.cell 0; have q2 := HC.out.cell 2; have q3 := HC.out.cell 3; have q4 := HC.out.cell 4
      have HLR := Lib.hid HC.out.lies.log.row
      have hfc := HC.out.fits.cl
      obtain ⟨MM, hMM⟩ : ∃ y, y = m' := ⟨_, rfl⟩
      have HMM := Lib.hid hMM
      rw [← hMM] at HC HM
      clear hMM l1 l2 l3
      obtain ⟨⟨self, base, stable, sent, Av, cv, vs, Al, cl, log, Ap, cp, pend, Am, cm, marks, Af, cf, fls⟩, Ak, ck, pk, Ad, cd, dl⟩ := m'
      have HEQ : Hid (log = m2.b.log ∧ marks = m2.b.marks ∧ base = m2.b.base ∧ self = m2.b.self ∧ stable = m2.b.stable) := Lib.hid (by
        have h := HKM.out.1
        simp only [BM.st, St.mk.injEq] at h
        obtain ⟨e1, e2, e3, e4, e5, e6, e7, e8, e9⟩ := h
        exact ⟨e4, e8, e3, e1, e5⟩)
      replace q0 : wr.cell? ⟨p, 0, none⟩ = some (.int .i64 self) := q0
      replace q2 : wr.cell? ⟨p, 2, none⟩ = some (.int .i64 base) := q2
      replace q3 : wr.cell? ⟨p, 3, none⟩ = some (.slice Al log.length cl) := q3
      replace q4 : wr.cell? ⟨p, 4, none⟩ = some (.int .i64 stable) := q4
      simp only at HLR hfc
      have hMcs : Hid (MM.cs.s = ⟨self, vws vs, base, log, stable, sent, pend, marks, fls.map FlM.v⟩) := Lib.hid (by rw [HMM.out]; rfl)
      by_cases hxs : x = self
      · have hd : (x == self) = true := by simpa using hxs
        have HSK : Hid (leadStep MM.cs x = MM.cs) := Lib.hid (leadStep_no (by rw [hMcs.out]; exact hxs))
        clear hxs
        go_wp2
        go_roundw
        case rel => exact ⟨k + 1, MM, col', by omega, by go_num, HC, Lib.hid (by rw [HFS.out, ← HM.out, HSK.out]), HS⟩
        case measure => simp [intOf]; omega
      · have hd : (x == self) = false := by simpa using hxs
        go_wp2_with fail
        refine (mark_any MM B col' p x wr HC.out).mono ?_
        rintro en w4 ⟨rfl, hx4⟩
        have C4 := Lib.hid (HC.out.ext hx4)
        have X4 := Lib.hid hx4
        have hmmk : Hid (MM.b.marks = marks) := Lib.hid (by rw [HMM.out])
        rw [hmmk.out]
        have p2 : w4.cell? ⟨p, 2, none⟩ = some (.int .i64 base) := by rw [hx4.cell (by exact hpr)]; exact q2
        have p3 : w4.cell? ⟨p, 3, none⟩ = some (.slice Al log.length cl) := by rw [hx4.cell (by exact hpr)]; exact q3
        have p4 : w4.cell? ⟨p, 4, none⟩ = some (.int .i64 stable) := by rw [hx4.cell (by exact hpr)]; exact q4
        have hpr4 : p < w4.heap.size := by have := hx4.size; omega
        have HLR4 := Lib.hid (HLR.out.ext hx4)
        have hlg : log.length ≤ 2000 := by rw [HEQ.out.1]; exact hlog
        have HLP4 : Hid (∀ e ∈ log, e.p.length ≤ 6000) := Lib.hid (by rw [HEQ.out.1]; exact HLP.out)
        clear hx4 q0 q2 q3 q4 hpr HLR
        cases hmf : markF marks x with
        | none =>
          have HST : Hid (leadStep MM.cs x = sendF MM.cs x 15 (numsF [base] ++ entsF log)) := Lib.hid (by
            have := leadStep_in (c := MM.cs) (x := x) (by rw [hMcs.out]; exact hxs) (by rw [hMcs.out]; exact hmf)
            rw [this, hMcs.out])
          clear hmf
          obtain ⟨bd, hbd⟩ : ∃ l, l = numsF [base] ++ entsF log := ⟨_, rfl⟩
          have HBD := Lib.hid hbd
          have hbl : bd.length ≤ 100000000 := by rw [hbd]; exact ents_bound (by have := numsF_len [base]; simp at this; omega) hlg HLP4.out
          rw [← hbd] at HST
          clear hbd
          simp only [Option.getD_none, Option.isSome_none]
          go_wp2
          refine E_begin 15 (fun w' => w'.cell? ⟨p, 2, none⟩ = some (.int .i64 base) ∧ w'.cell? ⟨p, 3, none⟩ = some (.slice Al log.length cl)) (by kernel_rfl) ⟨by simpa using p2, by simpa using p3⟩ (fun hHeld => ?_)
          refine E_tk 0 (oi := ⟨some 40, _, _, _, _, _⟩) (v := ?_) ?_ ?_
          rotate_left
          · (intro w9 hSw; (try dsimp only at hSw); go_simp <;> with_reducible rfl)
          try simp only [Act.put, l1, l2, l3]
          refine E_tk 1 (oi := ⟨some 41, _, _, _, _, _⟩) (v := ?_) ?_ ?_
          rotate_left
          · (intro w9 hSw; (try dsimp only at hSw); go_simp <;> with_reducible rfl)
          try simp only [Act.put, l1, l2, l3]
          refine E_tk 2 (oi := ⟨some 42, _, _, _, _, _⟩) (v := ?_) ?_ ?_
          rotate_left
          · (intro w9 hSw; (try dsimp only at hSw); go_simp <;> with_reducible rfl)
          try simp only [Act.put, l1, l2, l3]
          refine E_tk 3 (oi := ⟨some 43, _, _, _, _, _⟩) (v := ?_) ?_ ?_
          rotate_left
          · (intro w9 hSw; (try dsimp only at hSw); go_simp <;> with_reducible rfl)
          try simp only [Act.put, l1, l2, l3]
          refine E_tk 4 (oi := ⟨some 44, _, _, _, _, _⟩) (v := ?_) ?_ ?_
          rotate_left
          · (intro w9 hSw; (try dsimp only at hSw); go_simp <;> with_reducible rfl)
          try simp only [Act.put, l1, l2, l3]
          refine E_tk 5 (oi := ⟨some 45, _, _, _, _, _⟩) (v := ?_) ?_ ?_
          rotate_left
          · (intro w9 hSw; (try dsimp only at hSw); go_simp <;> with_reducible rfl)
          try simp only [Act.put, l1, l2, l3]
          refine E_tk 6 (oi := ⟨some 46, _, _, _, _, _⟩) (v := ?_) ?_ ?_
          rotate_left
          · (intro w9 hSw; (try dsimp only at hSw); go_simp <;> with_reducible rfl)
          try simp only [Act.put, l1, l2, l3]
          refine E_tk 9 (oi := ⟨some 49, _, _, _, _, _⟩) (v := ?_) ?_ ?_
          rotate_left
          · (intro w9 hSw; (try dsimp only at hSw); go_simp <;> with_reducible rfl)
          try simp only [Act.put, l1, l2, l3]
          refine E_tk 10 (oi := ⟨some 50, _, _, _, _, _⟩) (v := ?_) ?_ ?_
          rotate_left
          · (intro w9 hSw; (try dsimp only at hSw); go_simp <;> with_reducible rfl)
          try simp only [Act.put, l1, l2, l3]
          refine E_tk 11 (oi := ⟨some 51, _, _, _, _, _⟩) (v := ?_) ?_ ?_
          rotate_left
          · (intro w9 hSw; (try dsimp only at hSw); go_simp <;> with_reducible rfl)
          try simp only [Act.put, l1, l2, l3]
          refine E_tk 12 (oi := ⟨some 52, _, _, _, _, _⟩) (v := ?_) ?_ ?_
          rotate_left
          · (intro w9 hSw; (try dsimp only at hSw); go_simp <;> with_reducible rfl)
          try simp only [Act.put, l1, l2, l3]
          refine E_tk 13 (oi := ⟨some 53, _, _, _, _, _⟩) (v := ?_) ?_ ?_
          rotate_left
          · (intro w9 hSw; (try dsimp only at hSw); go_simp <;> with_reducible rfl)
          try simp only [Act.put, l1, l2, l3]
          refine E_ready [7] (by kernel_rfl) (by simp) ?_
          refine AllE.cons (o := ⟨some 47, _, _, _, _, _⟩) rfl (fun K hK => ?_) AllE.nil
          go_simp
          clear hHeld
          refine hK.out _ _ ⟨(alloc_drew_cell hpr4).trans p2, (alloc_drew_cell hpr4).trans p3⟩ (fun hHeld => ?_)
          clear hK K
          try simp only [Act.put, l1, l2, l3]
          refine E_ready [8] (by kernel_rfl) (by simp) ?_
          refine AllE.cons (o := ⟨some 48, _, _, _, _, _⟩) rfl (fun K hK => ?_) AllE.nil
          go_simp
          go_at_call 48
          refine (numbers_any _ 1 [base] _ (by exact rowd (ints1_row _ _) (by simp)) (by simp)).mono ?_
          rintro en w6 ⟨A2, c2, rfl, h21, h22, ho2, hx2⟩
          have X2 : Hid (Ext w4 w6) := Lib.hid (((Ext.new _ _).trans Ext.drew1).trans hx2)
          have HR2 := Lib.hid ho2.row
          clear ho2 hx2
          have r2 : w6.cell? ⟨p, 2, none⟩ = some (.int .i64 base) := by rw [X2.out.cell (by exact hpr4)]; exact p2
          have r3 : w6.cell? ⟨p, 3, none⟩ = some (.slice Al log.length cl) := by rw [X2.out.cell (by exact hpr4)]; exact p3
          clear hHeld
          refine hK.out _ _ ⟨r2, r3⟩ (fun hHeld => ?_)
          clear hK K
          try simp only [Act.put, l1, l2, l3]
          refine E_ready [14] (by kernel_rfl) (by simp) ?_
          refine AllE.cons (o := ⟨some 54, _, _, _, _, _⟩) rfl (fun K hK => ?_) AllE.nil
          go_simp
          go_at_call 52
          refine (appendEntries_any A2 Al c2 cl (numsF [base]) log _ HR2.out (by have := numsF_len [base]; simp at this; omega) ⟨h21, h22⟩ (HLR4.out.ext X2.out) hlg HLP4.out).mono ?_
          rintro e3 w3' ⟨A3, c3, rfl, h31, h32, ho3, hx3⟩
          rw [← HBD.out] at h31 ho3 ⊢
          have X3' : Hid (Ext w4 w3') := Lib.hid (X2.out.trans hx3)
          have HR3 := Lib.hid ho3.row
          clear ho3 hx3
          have s2 : w3'.cell? ⟨p, 2, none⟩ = some (.int .i64 base) := by rw [X3'.out.cell (by exact hpr4)]; exact p2
          have s3 : w3'.cell? ⟨p, 3, none⟩ = some (.slice Al log.length cl) := by rw [X3'.out.cell (by exact hpr4)]; exact p3
          clear hHeld
          refine hK.out _ _ ⟨s2, s3⟩ (fun hHeld => ?_)
          clear hK K
          try simp only [Act.put, l1, l2, l3]
          refine E_tail (by rfl) (by kernel_rfl) ?_
          go_wp2_with fail
          refine (send_any MM B col' p x 15 A3 c3 bd w3' (C4.out.ext X3'.out) HR3.out hbl (by decide) (by have := HKM.out.2; rw [HMM.out]; simp only at this ⊢; omega)).mono ?_
          rintro en w5 ⟨m5, col5, rfl, hc5, hm5, hs5⟩
          have S5 : Hid (Stp B [1, 2, 3, 4, 5, 7] col2 w2 col5 w5) := Lib.hid (HS.out.trans (((Stp.ext' HC.out.Bsz (X4.out.trans X3'.out))).trans hs5))
          go_wp2
          go_roundw
          case rel => exact ⟨k + 1, m5, col5, by omega, by go_num, Lib.hid hc5, Lib.hid (by rw [hm5, HFS.out, ← HM.out, HST.out]), S5⟩
          case measure => simp [intOf]; omega
        | some st =>
          have hstb : 0 ≤ st ∧ st ≤ (log.length : Int) := by
            unfold markF at hmf
            cases hfd : marks.find? (fun y => y.1 == x) with
            | none => rw [hfd] at hmf; cases hmf
            | some y =>
              rw [hfd] at hmf
              simp only [Option.map_some, Option.some.injEq] at hmf
              have := HMK.out y (by rw [← HEQ.out.2.1]; exact List.mem_of_find?_eq_some hfd)
              rw [HEQ.out.1, ← hmf]; exact this
          obtain ⟨sn, rfl⟩ : ∃ sn : Nat, st = (sn : Int) := ⟨st.toNat, by omega⟩
          obtain ⟨en, hen⟩ : ∃ en : Nat, en = min (sn + 16) log.length := ⟨_, rfl⟩
          have hen1 : sn ≤ en ∧ en ≤ log.length := by omega
          have HEN := Lib.hid hen
          have HST : Hid (leadStep MM.cs x = sendF MM.cs x 12 (numsF [base, (sn : Int), stable] ++ entsF ((log.take en).drop sn))) := Lib.hid (by
            have := leadStep_ap (c := MM.cs) (x := x) (st := (sn : Int)) (by rw [hMcs.out]; exact hxs) (by rw [hMcs.out]; exact hmf)
            rw [this, hMcs.out]
            simp only
            have e1 : (min ((sn : Int) + 16) (log.length : Int)) = (en : Int) := by omega
            rw [e1]; rfl)
          clear hmf
          obtain ⟨bd, hbd⟩ : ∃ l, l = numsF [base, (sn : Int), stable] ++ entsF ((log.take en).drop sn) := ⟨_, rfl⟩
          have HBD := Lib.hid hbd
          have hbl : bd.length ≤ 100000000 := by rw [hbd]; exact ents_bound (by have := numsF_len [base, (sn : Int), stable]; simp at this; omega) (by rw [List.length_drop, List.length_take]; omega) (fun e he => HLP4.out e (List.mem_of_mem_take (List.mem_of_mem_drop he)))
          rw [← hbd] at HST
          have hwn : IntKind.i64.wrap ((sn : Int) + 16) = (sn : Int) + 16 := IntWalk.i64_in _ (by omega)
          have hmin : min ((sn : Int) + 16) (log.length : Int) = (en : Int) := by omega
          have hsl : ∀ W, (Instr.slice 23 (.slice Al log.length cl) (some (.int .i64 (sn : Int))) (some (.int .i64 (en : Int))) none).run Tryz.prog W = .ok (.slice (subA Al sn cl 4) (en - sn) (cl - sn)) W := fun W => entE.slice_lh Al log.length cl sn en _ _ rfl rfl hen1.1 (by omega) W
          have HCR : Hid (Row w4 (subA Al sn cl 4) (entE.cells ((log.take en).drop sn))) := Lib.hid (Elem.row_sub HLR4.out (by omega) sn en)
          clear hbd hen
          simp only [Option.getD_some, Option.isSome_some]
          go_wp2
          refine E_begin 24 (fun w' => w'.cell? ⟨p, 2, none⟩ = some (.int .i64 base) ∧ w'.cell? ⟨p, 3, none⟩ = some (.slice Al log.length cl) ∧ w'.cell? ⟨p, 4, none⟩ = some (.int .i64 stable)) (by kernel_rfl) ⟨by simpa using p2, by simpa using p3, by simpa using p4⟩ (fun hHeld => ?_)
          refine E_tk 0 (oi := ⟨some 65, _, _, _, _, _⟩) (v := ?_) ?_ ?_
          rotate_left
          · (intro w9 hSw; (try dsimp only at hSw); go_simp <;> with_reducible rfl)
          try simp only [Act.put, l1, l2, l3]
          refine E_tk 1 (oi := ⟨some 66, _, _, _, _, _⟩) (v := ?_) ?_ ?_
          rotate_left
          · (intro w9 hSw; (try dsimp only at hSw); go_simp <;> with_reducible rfl)
          try simp only [Act.put, l1, l2, l3]
          refine E_tk 2 (oi := ⟨some 67, _, _, _, _, _⟩) (v := ?_) ?_ ?_
          rotate_left
          · (intro w9 hSw; (try dsimp only at hSw); go_simp <;> with_reducible rfl)
          try simp only [Act.put, l1, l2, l3]
          refine E_tk 3 (oi := ⟨some 68, _, _, _, _, _⟩) (v := ?_) ?_ ?_
          rotate_left
          · (intro w9 hSw; (try dsimp only at hSw); go_simp <;> with_reducible rfl)
          try simp only [Act.put, l1, l2, l3]
          refine E_tk 4 (oi := ⟨some 69, _, _, _, _, _⟩) (v := ?_) ?_ ?_
          rotate_left
          · (intro w9 hSw; (try dsimp only at hSw); go_simp <;> with_reducible rfl)
          try simp only [Act.put, l1, l2, l3]
          refine E_tk 5 (oi := ⟨some 70, _, _, _, _, _⟩) (v := ?_) ?_ ?_
          rotate_left
          · (intro w9 hSw; (try dsimp only at hSw); go_simp <;> with_reducible rfl)
          try simp only [Act.put, l1, l2, l3]
          refine E_tk 6 (oi := ⟨some 71, _, _, _, _, _⟩) (v := ?_) ?_ ?_
          rotate_left
          · (intro w9 hSw; (try dsimp only at hSw); go_simp <;> with_reducible rfl)
          try simp only [Act.put, l1, l2, l3]
          refine E_tk 7 (oi := ⟨some 72, _, _, _, _, _⟩) (v := ?_) ?_ ?_
          rotate_left
          · (intro w9 hSw; (try dsimp only at hSw); go_simp <;> with_reducible rfl)
          try simp only [Act.put, l1, l2, l3]
          refine E_tk 8 (oi := ⟨some 73, _, _, _, _, _⟩) (v := ?_) ?_ ?_
          rotate_left
          · (intro w9 hSw; (try dsimp only at hSw); go_simp <;> with_reducible rfl)
          try simp only [Act.put, l1, l2, l3]
          refine E_tk 9 (oi := ⟨some 74, _, _, _, _, _⟩) (v := ?_) ?_ ?_
          rotate_left
          · (intro w9 hSw; (try dsimp only at hSw); go_simp <;> with_reducible rfl)
          try simp only [Act.put, l1, l2, l3]
          refine E_tk 10 (oi := ⟨some 75, _, _, _, _, _⟩) (v := ?_) ?_ ?_
          rotate_left
          · (intro w9 hSw; (try dsimp only at hSw); go_simp <;> with_reducible rfl)
          try simp only [Act.put, l1, l2, l3]
          refine E_tk 11 (oi := ⟨some 76, _, _, _, _, _⟩) (v := ?_) ?_ ?_
          rotate_left
          · (intro w9 hSw; (try dsimp only at hSw); go_simp <;> with_reducible rfl)
          try simp only [Act.put, l1, l2, l3]
          refine E_tk 12 (oi := ⟨some 77, _, _, _, _, _⟩) (v := ?_) ?_ ?_
          rotate_left
          · (intro w9 hSw; (try dsimp only at hSw); go_simp <;> with_reducible rfl)
          try simp only [Act.put, l1, l2, l3]
          refine E_tk 15 (oi := ⟨some 80, _, _, _, _, _⟩) (v := ?_) ?_ ?_
          rotate_left
          · (intro w9 hSw; (try dsimp only at hSw); go_simp <;> with_reducible rfl)
          try simp only [Act.put, l1, l2, l3]
          refine E_tk 16 (oi := ⟨some 81, _, _, _, _, _⟩) (v := ?_) ?_ ?_
          rotate_left
          · (intro w9 hSw; (try dsimp only at hSw); go_simp <;> with_reducible rfl)
          try simp only [Act.put, l1, l2, l3]
          refine E_tk 17 (oi := ⟨some 82, _, _, _, _, _⟩) (v := ?_) ?_ ?_
          rotate_left
          · (intro w9 hSw; (try dsimp only at hSw); go_simp <;> with_reducible rfl)
          try simp only [Act.put, l1, l2, l3]
          refine E_tk 18 (oi := ⟨some 83, _, _, _, _, _⟩) (v := ?_) ?_ ?_
          rotate_left
          · (intro w9 hSw; (try dsimp only at hSw); go_simp <;> with_reducible rfl)
          try simp only [Act.put, l1, l2, l3]
          refine E_tk 19 (oi := ⟨some 84, _, _, _, _, _⟩) (v := ?_) ?_ ?_
          rotate_left
          · (intro w9 hSw; (try dsimp only at hSw); go_simp <;> with_reducible rfl)
          try simp only [Act.put, l1, l2, l3]
          refine E_tk 20 (oi := ⟨some 85, _, _, _, _, _⟩) (v := ?_) ?_ ?_
          rotate_left
          · (intro w9 hSw; (try dsimp only at hSw); go_simp <;> with_reducible rfl)
          try simp only [Act.put, l1, l2, l3]
          refine E_tk 21 (oi := ⟨some 86, _, _, _, _, _⟩) (v := ?_) ?_ ?_
          rotate_left
          · (intro w9 hSw; (try dsimp only at hSw); go_simp <;> with_reducible rfl)
          try simp only [Act.put, l1, l2, l3]
          refine E_tk 22 (oi := ⟨some 87, _, _, _, _, _⟩) (v := ?_) ?_ ?_
          rotate_left
          · (intro w9 hSw; (try dsimp only at hSw); go_simp <;> with_reducible rfl)
          try simp only [Act.put, l1, l2, l3]
          refine E_ready [13] (by kernel_rfl) (by simp) ?_
          refine AllE.cons (o := ⟨some 78, _, _, _, _, _⟩) rfl (fun K hK => ?_) AllE.nil
          go_simp
          clear hHeld
          refine hK.out _ _ ⟨(alloc_drew_cell hpr4).trans p2, (alloc_drew_cell hpr4).trans p3, (alloc_drew_cell hpr4).trans p4⟩ (fun hHeld => ?_)
          clear hK K
          try simp only [Act.put, l1, l2, l3]
          refine E_ready [14] (by kernel_rfl) (by simp) ?_
          refine AllE.cons (o := ⟨some 79, _, _, _, _, _⟩) rfl (fun K hK => ?_) AllE.nil
          go_simp
          go_at_call 48
          refine (numbers_any _ 3 [base, (sn : Int), stable] _ (by exact rowd (ints3_row _ _ _ _) (by simp)) (by simp)).mono ?_
          rintro en w6 ⟨A2, c2, rfl, h21, h22, ho2, hx2⟩
          have X2 : Hid (Ext w4 w6) := Lib.hid (((Ext.new _ _).trans Ext.drew1).trans hx2)
          have HR2 := Lib.hid ho2.row
          clear ho2 hx2
          have r2 : w6.cell? ⟨p, 2, none⟩ = some (.int .i64 base) := by rw [X2.out.cell (by exact hpr4)]; exact p2
          have r3 : w6.cell? ⟨p, 3, none⟩ = some (.slice Al log.length cl) := by rw [X2.out.cell (by exact hpr4)]; exact p3
          have r4 : w6.cell? ⟨p, 4, none⟩ = some (.int .i64 stable) := by rw [X2.out.cell (by exact hpr4)]; exact p4
          clear hHeld
          refine hK.out _ _ ⟨r2, r3, r4⟩ (fun hHeld => ?_)
          clear hK K
          try simp only [Act.put, l1, l2, l3]
          refine E_ready [23] (by kernel_rfl) (by simp) ?_
          refine AllE.cons (o := ⟨some 88, _, _, _, _, _⟩) rfl (fun K hK => ?_) AllE.nil
          go_simp
          go_at_call 52
          refine (appendEntries_len A2 (subA Al sn cl 4) c2 (cl - sn) (en - sn) (numsF [base, (sn : Int), stable]) ((log.take en).drop sn) _ HR2.out (by have := numsF_len [base, (sn : Int), stable]; simp at this; omega) ⟨h21, h22⟩ (HCR.out.ext X2.out) (by rw [List.length_drop, List.length_take]; omega) (fun e he => HLP4.out e (List.mem_of_mem_take (List.mem_of_mem_drop he))) (by rw [List.length_drop, List.length_take]; omega)).mono ?_
          rintro e3 w3' ⟨A3, c3, rfl, h31, h32, ho3, hx3⟩
          rw [← HBD.out] at h31 ho3 ⊢
          have X3' : Hid (Ext w4 w3') := Lib.hid (X2.out.trans hx3)
          have HR3 := Lib.hid ho3.row
          clear ho3 hx3
          have s2 : w3'.cell? ⟨p, 2, none⟩ = some (.int .i64 base) := by rw [X3'.out.cell (by exact hpr4)]; exact p2
          have s3 : w3'.cell? ⟨p, 3, none⟩ = some (.slice Al log.length cl) := by rw [X3'.out.cell (by exact hpr4)]; exact p3
          have s4 : w3'.cell? ⟨p, 4, none⟩ = some (.int .i64 stable) := by rw [X3'.out.cell (by exact hpr4)]; exact p4
          clear hHeld
          refine hK.out _ _ ⟨s2, s3, s4⟩ (fun hHeld => ?_)
          clear hK K
          try simp only [Act.put, l1, l2, l3]
          refine E_tail (by rfl) (by kernel_rfl) ?_
          go_wp2_with fail
          refine (send_any MM B col' p x 12 A3 c3 bd w3' (C4.out.ext X3'.out) HR3.out hbl (by decide) (by have := HKM.out.2; rw [HMM.out]; simp only at this ⊢; omega)).mono ?_
          rintro en' w5 ⟨m5, col5, rfl, hc5, hm5, hs5⟩
          have S5 : Hid (Stp B [1, 2, 3, 4, 5, 7] col2 w2 col5 w5) := Lib.hid (HS.out.trans (((Stp.ext' HC.out.Bsz (X4.out.trans X3'.out))).trans hs5))
          go_wp2
          go_roundw
          case rel => exact ⟨k + 1, m5, col5, by omega, by go_num, Lib.hid hc5, Lib.hid (by rw [hm5, HFS.out, ← HM.out, HST.out]), S5⟩
          case measure => simp [intOf]; omega
    · have hkl : xs.take k = xs := List.take_of_length_le (by omega)
      rw [hkl] at HM
      go_wp2
      go_end0
      rw [HLD2.out, ← HM.out]
      exact ⟨m', col', rfl, HC.out, rfl, S2.out.trans HS.out⟩
end Go.Proofs.YtponbabbabnaeaaGreat
