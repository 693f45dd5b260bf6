/- Contracts of Diff (package view and the reference) and of the reference's Same. -/
import Derived.Test.YtagmocofmedmjaaRef3d
namespace Go.Proofs.Ytagmocofmedmjaa
open Go.RowKit

/-- two views that a function is handed, in two new blocks -/
def twoBox (w : World) (n : Int) (s : Value) (m : Int) (t : Value) : World := (w.alloc (.cells #[.int .i64 n, s] 36)).alloc (.cells #[.int .i64 m, t] 36)
theorem twoBox_cells {w w1 : World} {n m : Int} {s t : Value} (h : Ext (twoBox w n s m t) w1) :
    w1.cell? ⟨w.heap.size, 0, none⟩ = some (.int .i64 n) ∧ w1.cell? ⟨w.heap.size, 1, none⟩ = some s ∧
    w1.cell? ⟨w.heap.size + 1, 0, none⟩ = some (.int .i64 m) ∧ w1.cell? ⟨w.heap.size + 1, 1, none⟩ = some t := by
  refine ⟨?_, ?_, ?_, ?_⟩
  · rw [h.cell (p := ⟨w.heap.size, 0, none⟩) (by simp [twoBox]; omega)]; simp [twoBox]
  · rw [h.cell (p := ⟨w.heap.size, 1, none⟩) (by simp [twoBox]; omega)]; simp [twoBox]
  · rw [h.cell (p := ⟨w.heap.size + 1, 0, none⟩) (by simp [twoBox])]; simp [twoBox]
  · rw [h.cell (p := ⟨w.heap.size + 1, 1, none⟩) (by simp [twoBox])]; simp [twoBox]
theorem twoBox_ext (w : World) (n m : Int) (s t : Value) : Ext w (twoBox w n s m t) := (Ext.new w _).alloc _

theorem Own.cap {w : World} {B : Nat} {e : TypeId} {A : Option Addr} {n c : Nat} {xs : List Value} (h : Own w B e (.slice A n c) xs) : n ≤ c := by
  obtain ⟨_, h2⟩ := h
  rcases h2 with ⟨hv, _⟩ | ⟨g, cap, cur, hv, _, _, h3, _⟩
  · cases hv; exact Nat.le_refl _
  · injection hv with _ h4 h5
    omega

set_option maxHeartbeats 800000 in
theorem diff_any (n m : Int) (A B : Option Addr) (c d : Nat) (xs ys : List Int) (w : World) (hx : Row w A (ints xs)) (hy : Row w B (ints ys))
    (hn : xs.length ≤ 9223372036854775807) (hm : ys.length ≤ 9223372036854775807) :
    Calls Try.prog 61 #[.agg #[.int .i64 n, .slice A xs.length c], .agg #[.int .i64 m, .slice B ys.length d]] w (GivesI w (diffF n xs m ys)) := by
  have H0 := Lib.hid (twoBox_ext w n m (.slice A xs.length c) (.slice B ys.length d))
  have HX := Lib.hid (hx.ext H0.out); have HY := Lib.hid (hy.ext H0.out)
  clear hx hy
  by_cases hv : validB n xs = true
  · have HV := Lib.hid hv
    clear hv
    by_cases hv' : validB m ys = true
    · have HV' := Lib.hid hv'
      clear hv'
      have HF := Lib.hid (diffF_yes HV.out HV'.out)
      have hl1 : xs.length ≤ 16 := (validB_len HV.out).2
      have hl2 : ys.length ≤ 16 := (validB_len HV'.out).2
      have hl3 := among_len xs ys false
      have hl4 := among_len ys xs false
      go_enter Try.func61, Try.ntmps61
      go_wp2_with fail
      refine (valid_yes _ _ _ _ _ HX.out hn HV.out).mono ?_
      rintro e w1 ⟨rfl, hx1⟩
      have H1 := Lib.hid hx1
      have HX1 := Lib.hid (HX.out.ext hx1); have HY1 := Lib.hid (HY.out.ext hx1)
      clear hx1
      obtain ⟨q0, q1, q2, q3⟩ := twoBox_cells H1.out
      go_wp2_with fail
      refine (valid_yes _ _ _ _ _ HY1.out hm HV'.out).mono ?_
      rintro e w2 ⟨rfl, hx2⟩
      have H2 := Lib.hid (H1.out.trans hx2)
      have HX2 := Lib.hid (HX1.out.ext hx2); have HY2 := Lib.hid (HY1.out.ext hx2)
      clear hx2 q0 q1 q2 q3 HX1 HY1 H1
      obtain ⟨q0, q1, q2, q3⟩ := twoBox_cells H2.out
      go_wp2_with fail
      refine (split_yes _ _ _ _ _ _ _ _ _ _ _ _ _ _ HX2.out HY2.out HX2.out HY2.out hn hm (by omega) hm HV.out (ids16_32 (validB_ids HV'.out))).mono ?_
      rintro e w3 ⟨A3, c3, A3', c3', rfl, ho3, ho3', hx3⟩
      have H3 := Lib.hid (H2.out.trans hx3)
      have HX3 := Lib.hid (HX2.out.ext hx3); have HY3 := Lib.hid (HY2.out.ext hx3)
      clear hx3 q0 q1 q2 q3 HX2 HY2 H2
      obtain ⟨q0, q1, q2, q3⟩ := twoBox_cells H3.out
      go_wp2_with fail
      refine (split_yes _ _ _ _ _ _ _ _ _ _ _ _ _ _ HX3.out HY3.out HY3.out HX3.out hn hm (by omega) hn HV.out (ids16_32 (validB_ids HV'.out))).mono ?_
      rintro e w4 ⟨A4, c4, A4', c4', rfl, ho4, ho4', hx4⟩
      have H4 := Lib.hid (H3.out.trans hx4)
      have HR3 := Lib.hid (ho3'.ext hx4).row
      have hc3 := ho3'.cap
      clear hx4 q0 q1 q2 q3 HX3 HY3 H3
      obtain ⟨q0, q1, q2, q3⟩ := twoBox_cells H4.out
      go_wp2_with fail
      refine (merge_any _ _ _ _ _ _ _ HR3.out ho4'.row hc3 (by omega) (by omega)).mono ?_
      rintro e w5 ⟨A5, c5, rfl, hc5, hm5, ho5, hx5⟩
      go_wp2
      go_ret
      exact (gives_own (by rw [HF.out]; exact ho5) hx5).from (H0.out.trans H4.out)
    · have hv2 : validB m ys = false := by simpa using hv'
      have HV' := Lib.hid hv2
      clear hv' hv2
      have HF := Lib.hid (diffF_no2 (n := n) (xs := xs) HV'.out)
      go_enter Try.func61, Try.ntmps61
      go_wp2_with fail
      refine (valid_yes _ _ _ _ _ HX.out hn HV.out).mono ?_
      rintro e w1 ⟨rfl, hx1⟩
      have H1 := Lib.hid hx1
      have HY1 := Lib.hid (HY.out.ext hx1)
      clear hx1
      obtain ⟨q0, q1, q2, q3⟩ := twoBox_cells H1.out
      go_wp2_with fail
      refine (valid_no _ _ _ _ _ HY1.out hm HV'.out).mono ?_
      rintro e w2 ⟨rfl, hx2⟩
      go_wp2
      go_ret
      exact gives_own (by rw [HF.out]; exact Own.nil _ _ _) (H0.out.trans (H1.out.trans hx2))
  · have hv2 : validB n xs = false := by simpa using hv
    have HV := Lib.hid hv2
    clear hv hv2
    have HF := Lib.hid (diffF_no1 (m := m) (ys := ys) HV.out)
    go_enter Try.func61, Try.ntmps61
    go_wp2_with fail
    refine (valid_no _ _ _ _ _ HX.out hn HV.out).mono ?_
    rintro e w1 ⟨rfl, hx1⟩
    go_wp2
    go_ret
    exact gives_own (by rw [HF.out]; exact Own.nil _ _ _) (H0.out.trans hx1)

set_option maxHeartbeats 800000 in
theorem rdiff_any (n m : Int) (A B : Option Addr) (c d : Nat) (xs ys : List Int) (w : World) (hx : Row w A (ints xs)) (hy : Row w B (ints ys))
    (hn : xs.length ≤ 9223372036854775807) (hm : ys.length ≤ 9223372036854775807) :
    Calls Try.prog 62 #[.agg #[.int .i64 n, .slice A xs.length c], .agg #[.int .i64 m, .slice B ys.length d]] w (GivesI w (diffF n xs m ys)) := by
  have H0 := Lib.hid (twoBox_ext w n m (.slice A xs.length c) (.slice B ys.length d))
  have HX := Lib.hid (hx.ext H0.out); have HY := Lib.hid (hy.ext H0.out)
  clear hx hy
  by_cases hv : validB n xs = true
  · have HV := Lib.hid hv
    clear hv
    by_cases hv' : validB m ys = true
    · have HV' := Lib.hid hv'
      clear hv'
      have HF := Lib.hid (diffF_yes HV.out HV'.out)
      have HL := Lib.hid (among_le (m := xs) (b := false) (idsB_sorted (validB_ids HV'.out)))
      have hl1 : xs.length ≤ 16 := (validB_len HV.out).2
      have hl2 : ys.length ≤ 16 := (validB_len HV'.out).2
      have hl3 := among_len xs ys false
      have hl4 := among_len ys xs false
      go_enter Try.func62, Try.ntmps62
      go_wp2_with fail
      refine (rvalid_yes _ _ _ _ _ HX.out hn HV.out).mono ?_
      rintro e w1 ⟨rfl, hx1⟩
      have H1 := Lib.hid hx1
      have HX1 := Lib.hid (HX.out.ext hx1); have HY1 := Lib.hid (HY.out.ext hx1)
      clear hx1
      obtain ⟨q0, q1, q2, q3⟩ := twoBox_cells H1.out
      go_wp2_with fail
      refine (rvalid_yes _ _ _ _ _ HY1.out hm HV'.out).mono ?_
      rintro e w2 ⟨rfl, hx2⟩
      have H2 := Lib.hid (H1.out.trans hx2)
      have HX2 := Lib.hid (HX1.out.ext hx2); have HY2 := Lib.hid (HY1.out.ext hx2)
      clear hx2 q0 q1 q2 q3 HX1 HY1 H1
      obtain ⟨q0, q1, q2, q3⟩ := twoBox_cells H2.out
      go_wp2_with fail
      refine (ramong_any _ _ _ _ _ _ _ _ HX2.out HY2.out (by omega) hm).mono ?_
      rintro e w3 ⟨A3, c3, rfl, hc3, hm3, ho3, hx3⟩
      have H3 := Lib.hid (H2.out.trans hx3)
      have HX3 := Lib.hid (HX2.out.ext hx3); have HY3 := Lib.hid (HY2.out.ext hx3)
      clear q0 q1 q2 q3 HX2 HY2
      obtain ⟨q0, q1, q2, q3⟩ := twoBox_cells H3.out
      go_wp2_with fail
      refine (ramong_any _ _ _ _ _ _ _ _ HY3.out HX3.out (by omega) hn).mono ?_
      rintro e w4 ⟨A4, c4, rfl, hc4, hm4, ho4, hx4⟩
      have H4 := Lib.hid (H0.out.trans (H3.out.trans hx4))
      have HS := Lib.hid (Own.base (B' := w.heap.size) (ho3.ext hx4) (by have := (H0.out.trans H2.out).size; omega))
      have HJ := Lib.hid ho4.row
      clear hx3 hx4 q0 q1 q2 q3 HX3 HY3 H3 H2 ho3 ho4
      go_wp2
      go_loopw [5, 7] (fun v i wr => ∃ (k : Nat) (A5 : Option Addr) (c5 : Nat), k ≤ (among ys xs false).length ∧ v = .slice A5 (foldIns (among xs ys false) (among ys xs false) k).length c5 ∧ i = .int .i64 k ∧ Own wr w.heap.size 3 (.slice A5 (foldIns (among xs ys false) (among ys xs false) k).length c5) (ints (foldIns (among xs ys false) (among ys xs false) k)) ∧ Ext w4 wr) (fun _ i _ => (among ys xs false).length - (intOf i).toNat)
      case atStart => exact ⟨0, A3, c3, Nat.zero_le _, rfl, rfl, HS.out, Below.refl _ _⟩
      case round =>
        obtain ⟨k, A5, c5, hk, rfl, rfl, ho5, hx5⟩ := hrel
        have hfl := foldIns_len (s := among xs ys false) k hk
        have hfl' : (foldIns (among xs ys false) (among ys xs false) k).length ≤ 100 := by omega
        clear hfl
        have H5 := Lib.hid (H4.out.trans hx5)
        have HJ5 := Lib.hid (HJ.out.ext hx5)
        by_cases hlt : k < (among ys xs false).length
        · obtain ⟨bk, off, x, hA, hc, HXx⟩ := HJ5.out.at_ hlt
          subst hA
          go_wp2_with (first
            | (go_at_call 75; refine (rinsert_any _ _ _ _ _ ho5.row (by omega)).mono ?_; rintro e w6 ⟨A6, c6, rfl, hc6, hm6, ho6, hx6⟩))
          go_roundw
          case rel => exact ⟨k + 1, A6, c6, by omega, by rw [foldIns_succ HXx.out], by go_num, by rw [foldIns_succ HXx.out]; exact ho6.base H5.out.size, hx5.trans hx6⟩
          case measure => simp [intOf]; omega
        · have HFI := Lib.hid (foldIns_all (s := among xs ys false) hlt HL.out)
          go_wp2
          go_ret
          exact gives_own (by rw [HF.out, ← HFI.out]; exact ho5) H5.out
    · have hv2 : validB m ys = false := by simpa using hv'
      have HV' := Lib.hid hv2
      clear hv' hv2
      have HF := Lib.hid (diffF_no2 (n := n) (xs := xs) HV'.out)
      go_enter Try.func62, Try.ntmps62
      go_wp2_with fail
      refine (rvalid_yes _ _ _ _ _ HX.out hn HV.out).mono ?_
      rintro e w1 ⟨rfl, hx1⟩
      have H1 := Lib.hid hx1
      have HY1 := Lib.hid (HY.out.ext hx1)
      clear hx1
      obtain ⟨q0, q1, q2, q3⟩ := twoBox_cells H1.out
      go_wp2_with fail
      refine (rvalid_no _ _ _ _ _ HY1.out hm HV'.out).mono ?_
      rintro e w2 ⟨rfl, hx2⟩
      go_wp2
      go_ret
      exact gives_own (by rw [HF.out]; exact Own.nil _ _ _) (H0.out.trans (H1.out.trans hx2))
  · have hv2 : validB n xs = false := by simpa using hv
    have HV := Lib.hid hv2
    clear hv hv2
    have HF := Lib.hid (diffF_no1 (m := m) (ys := ys) HV.out)
    go_enter Try.func62, Try.ntmps62
    go_wp2_with fail
    refine (rvalid_no _ _ _ _ _ HX.out hn HV.out).mono ?_
    rintro e w1 ⟨rfl, hx1⟩
    go_wp2
    go_ret
    exact gives_own (by rw [HF.out]; exact Own.nil _ _ _) (H0.out.trans hx1)

theorem rsame_any (n m : Int) (A B : Option Addr) (c d : Nat) (xs ys : List Int) (w : World) (hx : Row w A (ints xs)) (hy : Row w B (ints ys)) (hn : xs.length ≤ 9223372036854775807) :
    Calls Try.prog 49 #[.agg #[.int .i64 n, .slice A xs.length c], .agg #[.int .i64 m, .slice B ys.length d]] w fun e w' => e = .returned (.bool (sameV n xs m ys)) ∧ Ext w w' := by
  have H0 := Lib.hid (twoBox_ext w n m (.slice A xs.length c) (.slice B ys.length d))
  have HX := Lib.hid (hx.ext H0.out); have HY := Lib.hid (hy.ext H0.out)
  clear hx hy
  by_cases h : n = m
  · have HF : Hid (sameV n xs m ys = sameB xs ys) := by simp [Hid, sameV, h]
    have hb : (n == m) = true := by simpa using h
    clear h
    go_enter Try.func49, Try.ntmps49
    go_wp2_with fail
    refine (sameInts_any _ _ _ _ _ _ _ HX.out HY.out hn).mono ?_
    rintro e w1 ⟨rfl, hs⟩
    go_wp2
    go_ret
    exact ⟨ret_bool HF.out.symm, H0.out.trans hs.ext⟩
  · have HF : Hid (sameV n xs m ys = false) := by simp [Hid, sameV, h]
    have hb : (n == m) = false := by simpa using h
    clear h
    go_enter Try.func49, Try.ntmps49
    go_wp2
    go_ret
    exact ⟨ret_bool HF.out.symm, H0.out⟩
end Go.Proofs.Ytagmocofmedmjaa
