/- The contract of the reference's Cast. -/
import Derived.Test.YtagmocofmedmjaaVote6
import Derived.Test.YtagmocofmedmjaaHold
namespace Go.Proofs.Ytagmocofmedmjaa
open Go.RowKit

theorem cells2 {w w' : World} {a b c d : Value} {t t' : TypeId} (h : Ext ((w.alloc (.cells #[a, b] t)).alloc (.cells #[c, d] t')) w') :
    w'.cell? ⟨w.heap.size, 0, none⟩ = some a ∧ w'.cell? ⟨w.heap.size, 1, none⟩ = some b ∧ w'.cell? ⟨w.heap.size + 1, 0, none⟩ = some c ∧ w'.cell? ⟨w.heap.size + 1, 1, none⟩ = some d ∧ w.heap.size + 1 < w'.heap.size := by
  have h1 : Ext (w.alloc (.cells #[a, b] t)) w' := (Ext.new _ _).trans h
  have e : (w.alloc (.cells #[a, b] t)).heap.size = w.heap.size + 1 := by simp
  refine ⟨by simpa using h1.cell_new 0, by simpa using h1.cell_new 1, ?_, ?_, ?_⟩
  · have := h.cell_new 0; rw [e] at this; simpa using this
  · have := h.cell_new 1; rw [e] at this; simpa using this
  · have := h.size; simp at this; omega

set_option maxRecDepth 100000 in
set_option maxHeartbeats 4000000 in
theorem rcast_any (num m : Int) (A B Y : Option Addr) (c d cy : Nat) (xs ct : List Int) (bs : List Bal) (w : World) (hx : Row w A (ints xs)) (hb : Box w B bs) (hy : Row w Y (ints ct)) (hy1 : ct.length ≤ cy) (hy2 : cy ≤ maxLen)
    (hn : xs.length ≤ 9223372036854775807) (hm : bs.length ≤ 1000) :
    Calls Try.prog 34 #[.agg #[.int .i64 num, .slice A xs.length c], .slice B bs.length d, .agg #[.int .i64 m, .slice Y ct.length cy]] w (GivesCast w (castF num xs (prs bs) m ct)) := by
  have H0 := Lib.hid ((Ext.new w (.cells #[.int .i64 num, .slice A xs.length c] 36)).alloc (.cells #[.int .i64 m, .slice Y ct.length cy] 44))
  have HX := Lib.hid (hx.ext H0.out); have HB := Lib.hid (hb.ext H0.out); have HY := Lib.hid (hy.ext H0.out)
  clear hx hb hy
  have hbd : ct.length ≤ 9223372036854775807 := by unfold maxLen at hy2; omega
  go_enter Try.func34, Try.ntmps34
  go_wp2_with fail
  refine (rvalid8_any num A B c d xs bs _ HX.out HB.out hn hm).mono ?_
  cases hv : boxB num xs (prs bs)
  · have HV := Lib.hid hv; clear hv
    rintro e w3 ⟨rfl, hx3⟩
    have X3 := Lib.hid (H0.out.trans hx3); clear hx3
    go_wp2
    go_ret2
    exact gives_err (cast_box HV.out) X3.out
  have HV := Lib.hid hv; clear hv
  rintro e w3 ⟨rfl, hx3⟩
  have X3 := Lib.hid hx3
  obtain ⟨q0, q1, q2, q3, z1⟩ := cells2 hx3; clear hx3
  go_wp2_with fail
  refine (rapplicable_any num A Y c cy xs ct _ (HX.out.ext X3.out) (HY.out.ext X3.out) hn hbd).mono ?_
  clear q0 q1 q2 q3 z1
  cases ha : applF num xs ct
  · have HA := Lib.hid ha; clear ha
    rintro e w4 ⟨rfl, hx4⟩
    have X4 := Lib.hid (H0.out.trans (X3.out.trans hx4)); clear hx4
    go_wp2
    go_ret2
    exact gives_err (cast_cut HA.out) X4.out
  have HA := Lib.hid ha; clear ha
  rintro e w4 ⟨rfl, hx4⟩
  have X4 := Lib.hid (X3.out.trans hx4); clear hx4 X3
  obtain ⟨q0, q1, q2, q3, z1⟩ := cells2 X4.out
  go_wp2_with fail
  refine (rcontains_any _ _ xs m _ (HX.out.ext X4.out) hn).mono ?_
  cases hh : hasB xs m
  · have HH := Lib.hid hh; clear hh
    rintro e w5 ⟨rfl, rfl⟩
    go_wp2
    go_ret2
    exact gives_err (cast_who HV.out HA.out HH.out) (H0.out.trans X4.out)
  have HH := Lib.hid hh; clear hh
  rintro e w5 ⟨rfl, rfl⟩
  go_wp2_with fail
  refine (of_any B d bs m _ (HB.out.ext X4.out) (by omega)).mono ?_
  rintro e w5 ⟨⟨r, rfl, hr⟩, rfl⟩
  cases hvd : votedB (prs bs) m
  rotate_left
  · rw [hvd] at hr
    have HD := Lib.hid hvd; clear hvd
    have hr' : 0 ≤ r := by simpa using hr
    clear hr
    go_wp2
    go_ret2
    exact gives_err (cast_dup HV.out HA.out HH.out HD.out) (H0.out.trans X4.out)
  rw [hvd] at hr
  have HD := Lib.hid hvd; clear hvd
  have hr' : r < 0 := by simpa using hr
  clear hr
  have HBl := Lib.hid (HB.out.ext X4.out); have HYl := Lib.hid (HY.out.ext X4.out)
  have HF := Lib.hid (cast_ok HV.out HA.out HH.out HD.out)
  clear HB HY HX HV HA HH HD
  go_wp2
  go_loopw [8, 9, 10] (fun v p i wr => ∃ (k : Nat) (out : List Bal), k ≤ bs.length ∧ i = .int .i64 k ∧ p = .bool (putB ((prs bs).take k) m) ∧ out.length ≤ k + 1 ∧ Hid (prs out = insK ((prs bs).take k) m ct) ∧ Hid (OB wr w4.heap.size v out) ∧ Ext w4 wr) (fun _ _ i _ => bs.length - (intOf i).toNat)
  case atStart => exact ⟨0, [], Nat.zero_le _, rfl, rfl, by simp, Lib.hid rfl, Lib.hid (OB.nil _ _), Ext.refl _⟩
  case round =>
    obtain ⟨k, out, hk, rfl, rfl, hol, HPR, HO, HS0⟩ := hrel
    have HS := Lib.hid HS0; clear HS0
    have p2 : wr.cell? ⟨w.heap.size + 1, 0, none⟩ = some (.int .i64 m) := by rw [HS.out.cell (by exact z1)]; exact q2
    have p3 : wr.cell? ⟨w.heap.size + 1, 1, none⟩ = some (.slice Y ct.length cy) := by rw [HS.out.cell (by exact z1)]; exact q3
    by_cases hlt : k < bs.length
    · obtain ⟨b, off, m', X, cx, ct', hB, hb, c0, c1, HR, hl1, hl2, HI⟩ := HBl.out.at_ hlt
      subst hB
      have HP := Lib.hid (prs_at HI.out)
      have d0 : wr.cell? ⟨b, off + k * 2, none⟩ = some (.int .i64 m') := by rw [HS.out.cell (by exact hb)]; exact c0
      have d1 : wr.cell? ⟨b, off + k * 2 + 1, none⟩ = some (.slice X ct'.length cx) := by rw [HS.out.cell (by exact hb)]; exact c1
      cases hp : putB ((prs bs).take k) m
      · have HPT := Lib.hid hp; clear hp
        by_cases hlo : m < m'
        · have HK := Lib.hid (insK_hi (ct := ct) HP.out HPT.out hlo)
          go_wp2
          go_quiet (fail)
          go_wp2_with (first
            | (at_builtin; refine push_b1 rfl (.tmp 51) (.tmp 53) rfl _ w4.heap.size _ out (by rfl) ⟨m, Y, cy, ct⟩ _ (by rfl) (HO.out.ext (Still.ext ⟨_, rfl⟩)) (good_old HYl.out hy1 hy2 (Nat.le_refl _) (HS.out.drewN _) (HO.out.ext (Still.ext ⟨_, rfl⟩))) (by omega) HS.out.size ?_; intro v1 w6 ho1 hg1 _ _; have X6 := Lib.hid (hg1 w4 rfl (HS.out.drewN _)); have HO1 := Lib.hid ho1; clear ho1 hg1; have e0 : w6.cell? ⟨b, off + k * 2, none⟩ = some (.int .i64 m') := (by rw [X6.out.cell (by exact hb)]; exact c0); have e1 : w6.cell? ⟨b, off + k * 2 + 1, none⟩ = some (.slice X ct'.length cx) := (by rw [X6.out.cell (by exact hb)]; exact c1))
            | (at_builtin; refine push_b1 rfl (.tmp 55) (.tmp 60) rfl _ w4.heap.size _ (out ++ [⟨m, Y, cy, ct⟩]) (by rfl) ⟨m', X, cx, ct'⟩ _ (by rfl) HO1.out (good_old HR.out hl1 hl2 (Nat.le_refl _) X6.out HO1.out) (by simp; omega) X6.out.size ?_; intro v2 w7 ho2 hg2 _ _))
          have X7 := Lib.hid (hg2 w4 rfl X6.out)
          have HO2 := Lib.hid ho2
          clear ho2 hg2
          go_roundw
          case rel => exact ⟨k + 1, out ++ [⟨m, Y, cy, ct⟩] ++ [⟨m', X, cx, ct'⟩], by omega, by go_num, by rw [HK.out.2], by have := congrArg List.length (HPR.out); rw [prs_len] at this; simp [insK, HPT.out] at this; simp; omega, Lib.hid (by rw [prs_snoc, prs_snoc, HPR.out, HK.out.1]), HO2, X7.out⟩
          case measure => simp [intOf] <;> omega
        · have HK := Lib.hid (insK_lo (ct := ct) HP.out HPT.out hlo)
          have hlo' : decide (m < m') = false := decide_eq_false hlo
          clear hlo
          go_wp2
          go_quiet (fail)
          go_wp2_with (first
            | (at_builtin; refine push_b1 rfl (.tmp 55) (.tmp 60) rfl _ w4.heap.size _ out (by rfl) ⟨m', X, cx, ct'⟩ _ (by rfl) (HO.out.ext (Still.ext ⟨_, rfl⟩)) (good_old HR.out hl1 hl2 (Nat.le_refl _) (HS.out.drewN _) (HO.out.ext (Still.ext ⟨_, rfl⟩))) (by omega) HS.out.size ?_; intro v2 w7 ho2 hg2 _ _))
          have X7 := Lib.hid (hg2 w4 rfl (HS.out.drewN _))
          have HO2 := Lib.hid ho2
          clear ho2 hg2
          go_roundw
          case rel => exact ⟨k + 1, out ++ [⟨m', X, cx, ct'⟩], by omega, by go_num, by rw [HK.out.2], by simp; omega, Lib.hid (by rw [prs_snoc, HPR.out, HK.out.1]), HO2, X7.out⟩
          case measure => simp [intOf] <;> omega
      · have HPT := Lib.hid hp; clear hp
        have HK := Lib.hid (insK_on (ct := ct) HP.out HPT.out)
        go_wp2
        go_quiet (fail)
        go_wp2_with (first
          | (at_builtin; refine push_b1 rfl (.tmp 55) (.tmp 60) rfl _ w4.heap.size _ out (by rfl) ⟨m', X, cx, ct'⟩ _ (by rfl) (HO.out.ext (Still.ext ⟨_, rfl⟩)) (good_old HR.out hl1 hl2 (Nat.le_refl _) (HS.out.drewN _) (HO.out.ext (Still.ext ⟨_, rfl⟩))) (by omega) HS.out.size ?_; intro v2 w7 ho2 hg2 _ _))
        have X7 := Lib.hid (hg2 w4 rfl (HS.out.drewN _))
        have HO2 := Lib.hid ho2
        clear ho2 hg2
        go_roundw
        case rel => exact ⟨k + 1, out ++ [⟨m', X, cx, ct'⟩], by omega, by go_num, by rw [HK.out.2], by simp; omega, Lib.hid (by rw [prs_snoc, HPR.out, HK.out.1]), HO2, X7.out⟩
        case measure => simp [intOf] <;> omega
    · cases hp : putB ((prs bs).take k) m
      · have HE := Lib.hid (insK_end (ps := prs bs) (k := k) (ct := ct) (by rw [prs_len]; exact hlt) hp)
        clear hp
        go_wp2_with (first
          | (at_builtin; refine push_b1 rfl (.tmp 64) (.tmp 66) rfl _ w4.heap.size _ out (by rfl) ⟨m, Y, cy, ct⟩ _ (by rfl) HO.out (good_old HYl.out hy1 hy2 (Nat.le_refl _) HS.out HO.out) (by omega) HS.out.size ?_; intro v2 w7 ho2 hg2 _ _))
        have X7 := Lib.hid (hg2 w4 rfl HS.out)
        have HO2 := Lib.hid ho2
        clear ho2 hg2
        go_wp2
        go_ret2
        exact gives_cast (by rw [HF.out, prs_snoc, HPR.out, HE.out]) HO2.out (H0.out.trans (X4.out.trans X7.out))
      · have HE := Lib.hid (insK_yes (ps := prs bs) (k := k) (ct := ct) (by rw [prs_len]; exact hlt) hp)
        clear hp
        go_wp2
        go_ret2
        exact gives_cast (by rw [HF.out, HPR.out, HE.out]) HO.out (H0.out.trans (X4.out.trans HS.out))
end Go.Proofs.Ytagmocofmedmjaa
