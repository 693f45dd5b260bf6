/- Contracts of the reference's Winner and Undecidable. -/
import Derived.Test.YtagmocofmedmjaaVote5
namespace Go.Proofs.Ytagmocofmedmjaa
open Go.RowKit

theorem rvalid8_b (num : Int) (A B : Option Addr) (c d : Nat) (xs : List Int) (bs : List Bal) (w : World) (hx : Row w A (ints xs)) (hb : Box w B bs) (hn : xs.length ≤ 9223372036854775807) (hm : bs.length ≤ 1000) (r : Bool) (hr : boxB num xs (prs bs) = r) :
    Calls Try.prog 37 #[.agg #[.int .i64 num, .slice A xs.length c], .slice B bs.length d] w fun e w' => e = .returned (.bool r) ∧ Ext w w' := by
  subst hr; exact rvalid8_any num A B c d xs bs w hx hb hn hm
theorem rvotes_b (A C : Option Addr) (c d : Nat) (bs : List Bal) (cut : List Int) (w : World) (h : Box w A bs) (hc : Row w C (ints cut)) (hn : bs.length ≤ 1000) (n : Nat) (hr : votesF (prs bs) cut = n) :
    Calls Try.prog 43 #[.slice A bs.length c, .slice C cut.length d] w fun e w' => e = .returned (.int .i64 n) ∧ Still w w' := by
  subst hr; exact rvotes_any A C c d bs cut w h hc hn
theorem rfast_b (n : Int) (w : World) (q : Int) (hq : fqZ n = q) : Calls Try.prog 27 #[.int .i64 n] w fun e w' => e = .returned (.int .i64 q) ∧ w = w' := by
  subst hq; exact rfastQuorum_any n w
theorem low_step {ps : Ps} {q : Int} {k : Nat} {p : Int × List Int} (h : ps[k]? = some p) (h1 : ∀ p ∈ ps.take k, (votesF ps p.2 : Int) < q) (h2 : (votesF ps p.2 : Int) < q) : ∀ p ∈ ps.take (k + 1), (votesF ps p.2 : Int) < q := by
  intro r hr
  rw [take_snoc h] at hr
  rcases List.mem_append.1 hr with hr | hr
  · exact h1 r hr
  · rw [List.mem_singleton.1 hr]; exact h2
theorem low_all {ps : Ps} {q : Int} {k : Nat} (h : ¬ k < ps.length) (h1 : ∀ p ∈ ps.take k, (votesF ps p.2 : Int) < q) : ∀ p ∈ ps, (votesF ps p.2 : Int) < q := by
  rw [List.take_of_length_le (by omega)] at h1; exact h1

set_option maxRecDepth 100000 in
set_option maxHeartbeats 1000000 in
theorem rwinner_any (num : Int) (A B : Option Addr) (c d : Nat) (xs : List Int) (bs : List Bal) (w : World) (hx : Row w A (ints xs)) (hb : Box w B bs) (hn : xs.length ≤ 9223372036854775807) (hm : bs.length ≤ 1000) :
    Calls Try.prog 41 #[.agg #[.int .i64 num, .slice A xs.length c], .slice B bs.length d] w (GivesW w (winF num xs (prs bs))) := by
  have H0 := Lib.hid (Ext.new w (.cells #[.int .i64 num, .slice A xs.length c] 36))
  have HX := Lib.hid (hx.ext H0.out); have HB := Lib.hid (hb.ext H0.out)
  clear hx hb
  go_enter Try.func41, Try.ntmps41
  go_wp2
  go_loopw [6] (fun i wr => ∃ k : Nat, k ≤ bs.length ∧ i = .int .i64 k ∧ Hid (∀ p ∈ (prs bs).take k, (votesF (prs bs) p.2 : Int) < fqZ xs.length) ∧ Ext (w.alloc (.cells #[.int .i64 num, .slice A xs.length c] 36)) wr) (fun i _ => bs.length - (intOf i).toNat)
  case atStart => exact ⟨0, Nat.zero_le _, rfl, Lib.hid (by simp), Ext.refl _⟩
  case round =>
    obtain ⟨k, hk, rfl, HT, HS0⟩ := hrel
    have HS := Lib.hid HS0; clear HS0
    have q0 : wr.cell? ⟨w.heap.size, 0, none⟩ = some (.int .i64 num) := by simpa using HS.out.cell_new 0
    have q1 : wr.cell? ⟨w.heap.size, 1, none⟩ = some (.slice A xs.length c) := by simpa using HS.out.cell_new 1
    by_cases hlt : k < bs.length
    · cases hv : boxB num xs (prs bs)
      · have HV := Lib.hid hv; clear hv
        go_wp2_with fail
        refine (rvalid8_b num A B c d xs bs _ (HX.out.ext HS.out) (HB.out.ext HS.out) hn hm _ HV.out).mono ?_
        rintro e w1 ⟨rfl, hx1⟩
        have X1 := Lib.hid (H0.out.trans (HS.out.trans hx1)); clear hx1
        go_wp2
        go_ret2
        exact gives_w_none (win_inv HV.out) X1.out
      · have HV := Lib.hid hv; clear hv
        go_wp2_with fail
        refine (rvalid8_b num A B c d xs bs _ (HX.out.ext HS.out) (HB.out.ext HS.out) hn hm _ HV.out).mono ?_
        rintro e w1 ⟨rfl, hx1⟩
        have X1 := Lib.hid (HS.out.trans hx1); clear hx1 HS q0 q1
        have q1 : w1.cell? ⟨w.heap.size, 1, none⟩ = some (.slice A xs.length c) := by simpa using X1.out.cell_new 1
        obtain ⟨b, off, m, X, cx, ct, hB, hb, c0, c1, HR, hl1, hl2, HI⟩ := (HB.out.ext X1.out).at_ hlt
        have HBr := Lib.hid (HB.out.ext X1.out)
        subst hB
        have HP := Lib.hid (prs_at HI.out)
        have HI2 := Lib.hid (show ∃ p ∈ prs bs, p.2 = ct from ⟨_, List.mem_of_getElem? HP.out, rfl⟩)
        obtain ⟨n, hn0⟩ : ∃ n, votesF (prs bs) ct = n := ⟨_, rfl⟩
        have HN := Lib.hid hn0; clear hn0
        obtain ⟨q, hq0⟩ : ∃ q, fqZ xs.length = q := ⟨_, rfl⟩
        have HQ := Lib.hid hq0; clear hq0
        by_cases hq : (n : Int) < q
        · have HL := Lib.hid hq
          have hq' : decide (q ≤ (n : Int)) = false := decide_eq_false (by omega)
          go_wp2
          go_quiet (first
            | (go_at_call 43; exact quiet_still (rvotes_b _ _ _ _ bs ct _ (HBr.out.ext (Still.ext ⟨_, rfl⟩)) (HR.out.drewN _) hm _ HN.out))
            | (go_at_call 27; exact quiet_same (rfast_b _ _ _ HQ.out)))
          go_wp2
          go_roundw
          case rel => exact ⟨k + 1, by omega, by go_num, Lib.hid (low_step HP.out HT.out (by rw [HQ.out, HN.out]; exact HL.out)), X1.out.drewN _⟩
          case measure => simp [intOf] <;> omega
        · have hq2 : q ≤ (n : Int) := by omega
          have HL := Lib.hid hq2
          have hq' : decide (q ≤ (n : Int)) = true := decide_eq_true hq2
          clear hq
          go_wp2
          go_quiet (first
            | (go_at_call 43; exact quiet_still (rvotes_b _ _ _ _ bs ct _ (HBr.out.ext (Still.ext ⟨_, rfl⟩)) (HR.out.drewN _) hm _ HN.out))
            | (go_at_call 27; exact quiet_same (rfast_b _ _ _ HQ.out)))
          go_wp2
          go_ret2
          exact gives_w_some (win_yes HV.out HI2.out (by rw [HQ.out, HN.out]; exact HL.out)) hl1 hl2 (HR.out.drewN _) (H0.out.trans (X1.out.drewN _))
    · go_wp2
      go_ret2
      exact gives_w_none (win_no (low_all (by rw [prs_len]; exact hlt) HT.out)) (H0.out.trans HS.out)

set_option maxRecDepth 100000 in
set_option maxHeartbeats 1000000 in
theorem rundecidable_any (num : Int) (A B : Option Addr) (c d : Nat) (xs : List Int) (bs : List Bal) (w : World) (hx : Row w A (ints xs)) (hb : Box w B bs) (hn : xs.length ≤ 9223372036854775807) (hm : bs.length ≤ 1000) :
    Calls Try.prog 45 #[.agg #[.int .i64 num, .slice A xs.length c], .slice B bs.length d] w fun e w' => e = .returned (.bool (undF num xs (prs bs))) ∧ Ext w w' := by
  have H0 := Lib.hid (Ext.new w (.cells #[.int .i64 num, .slice A xs.length c] 36))
  have HX := Lib.hid (hx.ext H0.out); have HB := Lib.hid (hb.ext H0.out)
  clear hx hb
  go_enter Try.func45, Try.ntmps45
  go_wp2
  go_loopw [5, 6] (fun n i wr => ∃ k : Nat, k ≤ bs.length ∧ i = .int .i64 k ∧ n = .int .i64 (maxV (prs bs) ((prs bs).take k)) ∧ Ext (w.alloc (.cells #[.int .i64 num, .slice A xs.length c] 36)) wr) (fun _ i _ => bs.length - (intOf i).toNat)
  case atStart => exact ⟨0, Nat.zero_le _, rfl, rfl, Ext.refl _⟩
  case round =>
    obtain ⟨k, hk, rfl, rfl, HS0⟩ := hrel
    have HS := Lib.hid HS0; clear HS0
    by_cases hlt : k < bs.length
    · obtain ⟨b, off, m, X, cx, ct, rfl, hb, c0, c1, HR, hl1, hl2, HI⟩ := (HB.out.ext HS.out).at_ hlt
      have HP := Lib.hid (prs_at HI.out)
      have HT := Lib.hid (maxV_step HP.out)
      obtain ⟨q, hn0⟩ : ∃ q, votesF (prs bs) ct = q := ⟨_, rfl⟩
      have HN := Lib.hid hn0; clear hn0
      rw [HN.out] at HT
      generalize maxV (prs bs) ((prs bs).take k) = n at *
      go_wp2_with fail
      refine (rvotes_b _ _ _ _ bs ct _ (HB.out.ext HS.out) HR.out hm _ HN.out).mono ?_
      rintro e w1 ⟨rfl, hs1⟩
      have HS1 := Lib.hid (HS.out.trans hs1.ext); clear hs1
      go_wp2
      go_roundw
      case rel => exact ⟨k + 1, by omega, by go_num, by rw [HT.out]; simp; omega, HS1.out⟩
      case measure => simp [intOf] <;> omega
    · have HE := Lib.hid (maxV_all (ps := prs bs) (k := k) (by rw [prs_len]; exact hlt))
      have hvv := maxV_le (prs bs) ((prs bs).take k)
      rw [prs_len] at hvv
      generalize hnn : maxV (prs bs) ((prs bs).take k) = n at *
      clear hnn
      have q0 : wr.cell? ⟨w.heap.size, 0, none⟩ = some (.int .i64 num) := by simpa using HS.out.cell_new 0
      have q1 : wr.cell? ⟨w.heap.size, 1, none⟩ = some (.slice A xs.length c) := by simpa using HS.out.cell_new 1
      have z1 : w.heap.size < wr.heap.size := by have := HS.out.size; simp at this; omega
      have RX0 := Lib.hid (HX.out.ext (Ext.drew HS.out)); have RB0 := Lib.hid (HB.out.ext (Ext.drew HS.out))
      cases hv : boxB num xs (prs bs)
      · have HV := Lib.hid hv; clear hv
        go_wp2
        refine wp_region_held_drew (S := fun w' => w'.cell? ⟨w.heap.size, 0, none⟩ = some (.int .i64 num) ∧ w'.cell? ⟨w.heap.size, 1, none⟩ = some (.slice A xs.length c)) (by kernel_rfl) ⟨q0, q1⟩ (fun hHeld => ?_)
        refine wpAnyH_take (i := 0) (oi := ⟨some 22, _, _, _, _, _⟩) (v := ?_) rfl (by kernel_rfl) (by kernel_rfl) (by kernel_rfl) (fun _ _ _ h => h) (Or.inl ⟨by rfl, ?_⟩) (by assumption) ?_
        rotate_left
        · (intro w9 hSw; (try dsimp only at hSw); go_simp <;> with_reducible rfl)
        try simp only [Act.put, List.setIfInBounds_toArray, List.set_cons_zero, List.set_cons_succ]
        refine wpAnyH_take (i := 1) (oi := ⟨some 23, _, _, _, _, _⟩) (v := ?_) rfl (by kernel_rfl) (by kernel_rfl) (by kernel_rfl) (fun _ _ _ h => h) (Or.inl ⟨by rfl, ?_⟩) (by assumption) ?_
        rotate_left
        · (intro w9 hSw; (try dsimp only at hSw); go_simp <;> with_reducible rfl)
        try simp only [Act.put, List.setIfInBounds_toArray, List.set_cons_zero, List.set_cons_succ]
        refine wpAnyH_ready (rs := [2]) (by kernel_rfl) (by simp) ?_
        refine AllReadyH.cons (o := ⟨some 24, _, _, _, _, _⟩) rfl (fun K hK => ?_) AllReadyH.nil
        go_simp
        go_at_call 37
        refine (rvalid8_b num A B c d xs bs _ RX0.out RB0.out hn hm _ HV.out).mono ?_
        rintro e w2 ⟨rfl, hx2⟩
        have X2 := Lib.hid (HS.out.trans ((Ext.drew (Ext.refl _)).trans hx2))
        have r0 : w2.cell? ⟨w.heap.size, 0, none⟩ = some (.int .i64 num) := by simpa using X2.out.cell_new 0
        have r1 : w2.cell? ⟨w.heap.size, 1, none⟩ = some (.slice A xs.length c) := by simpa using X2.out.cell_new 1
        clear hHeld
        refine hK.out _ _ ⟨r0, r1⟩ (fun hHeld => ?_)
        try simp only [Act.put, List.setIfInBounds_toArray, List.set_cons_zero, List.set_cons_succ]
        refine wpAnyH_take (i := 3) (oi := ⟨some 25, _, _, _, _, _⟩) (v := ?_) rfl (by kernel_rfl) (by kernel_rfl) (by kernel_rfl) (fun _ _ _ h => h) (Or.inl ⟨by rfl, ?_⟩) (by assumption) ?_
        rotate_left
        · (intro w9 hSw; (try dsimp only at hSw); go_simp <;> with_reducible rfl)
        try simp only [Act.put, List.setIfInBounds_toArray, List.set_cons_zero, List.set_cons_succ]
        refine wpAnyH_take (i := 4) (oi := ⟨some 26, _, _, _, _, _⟩) (v := undef) rfl (by kernel_rfl) (by kernel_rfl) (by kernel_rfl) (fun _ _ _ h => h) (Or.inr ⟨by rfl, rfl⟩) (by assumption) ?_
        try simp only [Act.put, List.setIfInBounds_toArray, List.set_cons_zero, List.set_cons_succ]
        refine wpAnyH_take (i := 5) (oi := ⟨some 27, _, _, _, _, _⟩) (v := undef) rfl (by kernel_rfl) (by kernel_rfl) (by kernel_rfl) (fun _ _ _ h => h) (Or.inr ⟨by rfl, rfl⟩) (by assumption) ?_
        try simp only [Act.put, List.setIfInBounds_toArray, List.set_cons_zero, List.set_cons_succ]
        refine wpAnyH_take (i := 6) (oi := ⟨some 28, _, _, _, _, _⟩) (v := undef) rfl (by kernel_rfl) (by kernel_rfl) (by kernel_rfl) (fun _ _ _ h => h) (Or.inr ⟨by rfl, rfl⟩) (by assumption) ?_
        try simp only [Act.put, List.setIfInBounds_toArray, List.set_cons_zero, List.set_cons_succ]
        refine wpAnyH_take (i := 7) (oi := ⟨some 29, _, _, _, _, _⟩) (v := undef) rfl (by kernel_rfl) (by kernel_rfl) (by kernel_rfl) (fun _ _ _ h => h) (Or.inr ⟨by rfl, rfl⟩) (by assumption) ?_
        try simp only [Act.put, List.setIfInBounds_toArray, List.set_cons_zero, List.set_cons_succ]
        refine wpAnyH_take (i := 8) (oi := ⟨some 30, _, _, _, _, _⟩) (v := undef) rfl (by kernel_rfl) (by kernel_rfl) (by kernel_rfl) (fun _ _ _ h => h) (Or.inr ⟨by rfl, rfl⟩) (by assumption) ?_
        try simp only [Act.put, List.setIfInBounds_toArray, List.set_cons_zero, List.set_cons_succ]
        refine wpAnyH_take (i := 9) (oi := ⟨some 31, _, _, _, _, _⟩) (v := undef) rfl (by kernel_rfl) (by kernel_rfl) (by kernel_rfl) (fun _ _ _ h => h) (Or.inr ⟨by rfl, rfl⟩) (by assumption) ?_
        try simp only [Act.put, List.setIfInBounds_toArray, List.set_cons_zero, List.set_cons_succ]
        refine wpAnyH_take (i := 10) (oi := ⟨some 32, _, _, _, _, _⟩) (v := undef) rfl (by kernel_rfl) (by kernel_rfl) (by kernel_rfl) (fun _ _ _ h => h) (Or.inr ⟨by rfl, rfl⟩) (by assumption) ?_
        try simp only [Act.put, List.setIfInBounds_toArray, List.set_cons_zero, List.set_cons_succ]
        refine wpAnyH_take (i := 11) (oi := ⟨some 33, _, _, _, _, _⟩) (v := undef) rfl (by kernel_rfl) (by kernel_rfl) (by kernel_rfl) (fun _ _ _ h => h) (Or.inr ⟨by rfl, rfl⟩) (by assumption) ?_
        try simp only [Act.put, List.setIfInBounds_toArray, List.set_cons_zero, List.set_cons_succ]
        refine wpAnyH_take (i := 12) (oi := ⟨some 34, _, _, _, _, _⟩) (v := undef) rfl (by kernel_rfl) (by kernel_rfl) (by kernel_rfl) (fun _ _ _ h => h) (Or.inr ⟨by rfl, rfl⟩) (by assumption) ?_
        try simp only [Act.put, List.setIfInBounds_toArray, List.set_cons_zero, List.set_cons_succ]
        refine wpAnyH_take (i := 13) (oi := ⟨some 35, _, _, _, _, _⟩) (v := undef) rfl (by kernel_rfl) (by kernel_rfl) (by kernel_rfl) (fun _ _ _ h => h) (Or.inr ⟨by rfl, rfl⟩) (by assumption) ?_
        try simp only [Act.put, List.setIfInBounds_toArray, List.set_cons_zero, List.set_cons_succ]
        refine wpAnyH_take (i := 14) (oi := ⟨some 36, _, _, _, _, _⟩) (v := undef) rfl (by kernel_rfl) (by kernel_rfl) (by kernel_rfl) (fun _ _ _ h => h) (Or.inr ⟨by rfl, rfl⟩) (by assumption) ?_
        try simp only [Act.put, List.setIfInBounds_toArray, List.set_cons_zero, List.set_cons_succ]
        refine wpAnyH_take (i := 15) (oi := ⟨some 37, _, _, _, _, _⟩) (v := undef) rfl (by kernel_rfl) (by kernel_rfl) (by kernel_rfl) (fun _ _ _ h => h) (Or.inr ⟨by rfl, rfl⟩) (by assumption) ?_
        try simp only [Act.put, List.setIfInBounds_toArray, List.set_cons_zero, List.set_cons_succ]
        refine wpAnyH_take (i := 16) (oi := ⟨some 38, _, _, _, _, _⟩) (v := undef) rfl (by kernel_rfl) (by kernel_rfl) (by kernel_rfl) (fun _ _ _ h => h) (Or.inr ⟨by rfl, rfl⟩) (by assumption) ?_
        try simp only [Act.put, List.setIfInBounds_toArray, List.set_cons_zero, List.set_cons_succ]
        refine wpAnyH_take (i := 17) (oi := ⟨some 39, _, _, _, _, _⟩) (v := ?_) rfl (by kernel_rfl) (by kernel_rfl) (by kernel_rfl) (fun _ _ _ h => h) (Or.inl ⟨by rfl, ?_⟩) (by assumption) ?_
        rotate_left
        · (intro w9 hSw; (try dsimp only at hSw); go_simp <;> with_reducible rfl)
        try simp only [Act.put, List.setIfInBounds_toArray, List.set_cons_zero, List.set_cons_succ]
        refine wpAnyH_take (i := 18) (oi := ⟨some 4, _, _, _, _, _⟩) (v := ?_) rfl (by kernel_rfl) (by kernel_rfl) (by kernel_rfl) (fun _ _ _ h => h) (Or.inl ⟨by rfl, ?_⟩) (by assumption) ?_
        rotate_left
        · (intro w9 hSw; (try dsimp only at hSw); go_simp <;> with_reducible rfl)
        try simp only [Act.put, List.setIfInBounds_toArray, List.set_cons_zero, List.set_cons_succ]
        refine wpAnyH_done (by kernel_rfl) ?_ _
        go_wp2
        go_ret
        exact ⟨ret_bool (und_inv HV.out).symm, H0.out.trans X2.out⟩
      · have HV := Lib.hid hv; clear hv
        have hl := validB_len (box_iff.1 HV.out).1
        have HU := Lib.hid (und_yes HV.out)
        rw [← HE.out, prs_len] at HU
        have hw1 : IntKind.i64.wrap ((n : Int) + (xs.length : Int)) = (n : Int) + (xs.length : Int) := IntWalk.i64_in _ (by omega)
        have hw2 : IntKind.i64.wrap ((n : Int) + (xs.length : Int) - (bs.length : Int)) = (n : Int) + (xs.length : Int) - (bs.length : Int) := IntWalk.i64_in _ (by omega)
        obtain ⟨q, hq0⟩ : ∃ q, fqZ xs.length = q := ⟨_, rfl⟩
        rw [hq0] at HU
        have HQ := Lib.hid hq0; clear hq0
        go_wp2
        go_region_held3 (fun w' => w'.cell? ⟨w.heap.size, 0, none⟩ = some (.int .i64 num) ∧ w'.cell? ⟨w.heap.size, 1, none⟩ = some (.slice A xs.length c))
          (first | (go_keep; done) | (exact ⟨r0, r1⟩))
          (first
            | (go_at_call 37; (with_reducible refine (rvalid8_b num A B c d xs bs _ (by exact RX0.out) (by exact RB0.out) hn hm _ (by exact HV.out)).mono ?_); rintro e w2 ⟨rfl, hx2⟩; have X2 := Lib.hid (HS.out.trans ((Ext.drew (Ext.refl _)).trans hx2)); have r0 : w2.cell? ⟨w.heap.size, 0, none⟩ = some (.int .i64 num) := (by simpa using X2.out.cell_new 0); have r1 : w2.cell? ⟨w.heap.size, 1, none⟩ = some (.slice A xs.length c) := (by simpa using X2.out.cell_new 1))
            | (go_at_call 27; (with_reducible refine (rfast_b _ _ _ (by exact HQ.out)).mono ?_); rintro e w3 ⟨rfl, rfl⟩))
        go_wp2
        go_ret
        exact ⟨ret_bool HU.out.symm, H0.out.trans X2.out⟩
end Go.Proofs.Ytagmocofmedmjaa
