/- Contracts of Next and Diff of the reference of layer 3, Diff of package view, Same. -/
import Derived.Test.YtagmocofmedmjaaRef3c
namespace Go.Proofs.Ytagmocofmedmjaa
open Go.RowKit

theorem rnext_no (num : Int) (A Ac : Option Addr) (c cc : Nat) (xs cut : List Int) (w : World) (hx : Row w A (ints xs)) (hc : Row w Ac (ints cut))
    (hn : xs.length ≤ 9223372036854775807) (hnc : cut.length ≤ 9223372036854775807) (hv : okCut num xs cut = false) :
    Calls Try.prog 48 #[.agg #[.int .i64 num, .slice A xs.length c], .slice Ac cut.length cc] w (GivesV w (nextF num xs cut)) := by
  have H0 := Lib.hid (nextBox_ext w num (.slice A xs.length c))
  have HX := Lib.hid (hx.ext H0.out); have HC := Lib.hid (hc.ext H0.out)
  clear hx hc
  have HE : Hid (nextF num xs cut = (0, [], 1)) := if_pos hv
  rcases okCut_not hv with hv | ⟨hv, hcv⟩
  · have HV := Lib.hid hv; clear hv
    go_enter Try.func48, Try.ntmps48
    go_wp2_with (first
      | (go_at_call 47; refine (rvalid_no _ _ _ _ _ HX.out hn HV.out).mono ?_; rintro e w1 ⟨rfl, hx1⟩; obtain ⟨q0, q1, q2, q3, q4, q5, q6⟩ := nextBox_cells hx1; have H1 := Lib.hid (Ext.trans H0.out hx1); clear hx1))
    exact bodyPost_ret (v := .tuple #[.agg #[.int .i64 0, .slice none 0 0], .int .i64 1]) (by simp [results, Try.results48, go_sem, q2, q3]) rfl (gives_v HE.out (Own.nil _ _ _) ((H1.out.set (by simp) _).set (by simp) _))
  · have HV := Lib.hid hv; have HCV := Lib.hid hcv; clear hv hcv
    go_enter Try.func48, Try.ntmps48
    go_wp2_with (first
      | (go_at_call 47; refine (rvalid_yes _ _ _ _ _ HX.out hn HV.out).mono ?_; rintro e w1 ⟨rfl, hx1⟩; have HC1 := Lib.hid (HC.out.ext hx1); have H1 := Lib.hid hx1; clear hx1)
      | (go_at_call 19; refine (rvalidCut_no _ _ _ _ HC1.out hnc HCV.out).mono ?_; rintro e w2 ⟨rfl, hs2⟩; have H2 := Lib.hid (H1.out.trans hs2.ext); clear hs2; obtain ⟨q0, q1, q2, q3, q4, q5, q6⟩ := nextBox_cells H2.out))
    exact bodyPost_ret (v := .tuple #[.agg #[.int .i64 0, .slice none 0 0], .int .i64 1]) (by simp [results, Try.results48, go_sem, q2, q3]) rfl (gives_v HE.out (Own.nil _ _ _) (((H0.out.trans H2.out).set (by simp) _).set (by simp) _))

set_option maxHeartbeats 1000000 in
theorem rnext_yes (num : Int) (A Ac : Option Addr) (c cc : Nat) (xs cut : List Int) (w : World) (hx : Row w A (ints xs)) (hc : Row w Ac (ints cut))
    (hn : xs.length ≤ 9223372036854775807) (hnc : cut.length ≤ 9223372036854775807) (hv : okCut num xs cut = true) :
    Calls Try.prog 48 #[.agg #[.int .i64 num, .slice A xs.length c], .slice Ac cut.length cc] w (GivesV w (nextF num xs cut)) := by
  have H0 := Lib.hid (nextBox_ext w num (.slice A xs.length c))
  have HX := Lib.hid (hx.ext H0.out); have HC := Lib.hid (hc.ext H0.out)
  clear hx hc
  have HV := Lib.hid (okCut_iff.1 hv)
  have HO := Lib.hid hv
  have hl1 : xs.length ≤ 16 := (validB_len HV.out.1).2
  have hl2 : cut.length ≤ 32 := (idsB_len (m := 32) HV.out.2).2
  have hsl := surv_len HO.out
  have hjl := join_len HO.out
  have hnum := validB_num HV.out.1
  clear hv
  by_cases h1 : 2 * (survivors num xs cut).length ≤ xs.length
  · have HF := Lib.hid (nextF_maj HO.out h1)
    go_enter Try.func48, Try.ntmps48
    go_wp2_with (first
      | (go_at_call 47; refine (rvalid_yes _ _ _ _ _ HX.out hn HV.out.1).mono ?_; rintro e w1 ⟨rfl, hx1⟩; have HX1 := Lib.hid (HX.out.ext hx1); have HC1 := Lib.hid (HC.out.ext hx1); have H1 := Lib.hid hx1; clear hx1)
      | (go_at_call 19; refine (rvalidCut_yes _ _ _ _ HC1.out hnc HV.out.2).mono ?_; rintro e w2 ⟨rfl, hs2⟩; have H2 := Lib.hid (H1.out.trans hs2.ext); have HX2 := Lib.hid (HX1.out.ext hs2.ext); have HC2 := Lib.hid (HC1.out.ext hs2.ext); clear hs2; obtain ⟨q0, q1, q2, q3, q4, q5, q6⟩ := nextBox_cells H2.out)
      | (go_at_call 56; refine (rsurvivors_any _ _ _ _ _ _ _ _ HX2.out HC2.out hn hnc).mono ?_; rintro e w3 ⟨A3, c3, rfl, hc3, hm3, ho3, hx3⟩; have H3 := Lib.hid (H2.out.trans hx3); have HX3 := Lib.hid (HX2.out.ext hx3); have HC3 := Lib.hid (HC2.out.ext hx3); clear hx3 q0 q1 q2 q3 q4 q5 q6; obtain ⟨q0, q1, q2, q3, q4, q5, q6⟩ := nextBox_cells H3.out))
    exact bodyPost_ret (v := .tuple #[.agg #[.int .i64 0, .slice none 0 0], .int .i64 9]) (by simp [results, Try.results48, go_sem, q2, q3]) rfl (gives_v HF.out (Own.nil _ _ _) (((H0.out.trans H3.out).set (by simp) _).set (by simp) _))
  · have h1' : xs.length < 2 * (survivors num xs cut).length := by omega
    have HN1 := Lib.hid h1
    clear h1
    go_enter Try.func48, Try.ntmps48
    go_wp2_with (first
      | (go_at_call 47; refine (rvalid_yes _ _ _ _ _ HX.out hn HV.out.1).mono ?_; rintro e w1 ⟨rfl, hx1⟩; have HX1 := Lib.hid (HX.out.ext hx1); have HC1 := Lib.hid (HC.out.ext hx1); have H1 := Lib.hid hx1; clear hx1)
      | (go_at_call 19; refine (rvalidCut_yes _ _ _ _ HC1.out hnc HV.out.2).mono ?_; rintro e w2 ⟨rfl, hs2⟩; have H2 := Lib.hid (H1.out.trans hs2.ext); have HX2 := Lib.hid (HX1.out.ext hs2.ext); have HC2 := Lib.hid (HC1.out.ext hs2.ext); clear hs2; obtain ⟨q0, q1, q2, q3, q4, q5, q6⟩ := nextBox_cells H2.out)
      | (go_at_call 56; refine (rsurvivors_any _ _ _ _ _ _ _ _ HX2.out HC2.out hn hnc).mono ?_; rintro e w3 ⟨A3, c3, rfl, hc3, hm3, ho3, hx3⟩; have H3 := Lib.hid (H2.out.trans hx3); have HX3 := Lib.hid (HX2.out.ext hx3); have HC3 := Lib.hid (HC2.out.ext hx3); clear hx3 q0 q1 q2 q3 q4 q5 q6; obtain ⟨q0, q1, q2, q3, q4, q5, q6⟩ := nextBox_cells H3.out)
      | (go_at_call 54; fail))
    refine (rjoiners_any _ _ _ _ _ _ _ _ HX3.out HC3.out hn hnc).mono ?_
    rintro e w4 ⟨A4, c4, rfl, hc4, hm4, ho4, hx4⟩
    have H4 := Lib.hid (H3.out.trans hx4)
    have HS := Lib.hid (Own.base (B' := w.heap.size + 2) (ho3.ext hx4) (nextBox_cells H2.out).2.2.2.2.2.2)
    have HJ := Lib.hid ho4.row
    clear hx4 q0 q1 q2 q3 q4 q5 q6 HX1 HC1 HX2 HC2 HX3 HC3 ho3 ho4
    obtain ⟨q0, q1, q2, q3, q4, q5, q6⟩ := nextBox_cells H4.out
    by_cases h2 : num = 1099511627776
    · have HF := Lib.hid (nextF_lim HO.out HN1.out (.inl h2))
      have h2b : (num == 1099511627776) = true := by simpa using h2
      clear h2
      go_wp2
      exact bodyPost_ret (v := .tuple #[.agg #[.int .i64 0, .slice none 0 0], .int .i64 5]) (by simp [results, Try.results48, go_sem, q2, q3]) rfl (gives_v HF.out (Own.nil _ _ _) (((H0.out.trans H4.out).set (by simp) _).set (by simp) _))
    · have h2b : (num == 1099511627776) = false := by simpa using h2
      by_cases h3 : 16 < (survivors num xs cut).length + (joiners num xs cut).length
      · have HF := Lib.hid (nextF_lim HO.out HN1.out (.inr h3))
        clear h2
        go_wp2
        exact bodyPost_ret (v := .tuple #[.agg #[.int .i64 0, .slice none 0 0], .int .i64 5]) (by simp [results, Try.results48, go_sem, q2, q3]) rfl (gives_v HF.out (Own.nil _ _ _) (((H0.out.trans H4.out).set (by simp) _).set (by simp) _))
      · have HF := Lib.hid (nextF_ok HO.out HN1.out (by omega))
        have h3' : (survivors num xs cut).length + (joiners num xs cut).length ≤ 16 := by omega
        have h2' : num < 1099511627776 := by omega
        clear h2 h3
        go_wp2
        go_loopw [6, 8] (fun v i wr => ∃ (k : Nat) (A5 : Option Addr) (c5 : Nat), k ≤ (joiners num xs cut).length ∧ v = .slice A5 (foldIns (survivors num xs cut) (joiners num xs cut) k).length c5 ∧ i = .int .i64 k ∧ Own wr (w.heap.size + 2) 3 (.slice A5 (foldIns (survivors num xs cut) (joiners num xs cut) k).length c5) (ints (foldIns (survivors num xs cut) (joiners num xs cut) k)) ∧ Ext w4 wr) (fun _ i _ => (joiners num xs cut).length - (intOf i).toNat)
        case atStart => exact ⟨0, A3, c3, Nat.zero_le _, rfl, rfl, HS.out, Below.refl _ _⟩
        case round =>
          obtain ⟨k, A5, c5, hk, rfl, rfl, ho5, hx5⟩ := hrel
          have hfl := foldIns_len (s := survivors num xs cut) k hk
          have hfl' : (foldIns (survivors num xs cut) (joiners num xs cut) k).length ≤ 100 := by omega
          clear hfl
          have H5 := Lib.hid (H4.out.trans hx5)
          have HJ5 := Lib.hid (HJ.out.ext hx5)
          by_cases hlt : k < (joiners num xs cut).length
          · obtain ⟨bk, off, x, hA, hc, HXx⟩ := HJ5.out.at_ hlt
            have hA' := Lib.hid hA
            subst hA
            go_wp2_with (first
              | (go_at_call 75; refine (rinsert_any _ _ _ _ _ ho5.row (by omega)).mono ?_; rintro e w6 ⟨A6, c6, rfl, hc6, hm6, ho6, hx6⟩))
            go_roundw
            case rel => exact ⟨k + 1, A6, c6, by omega, by rw [foldIns_succ HXx.out], by go_num, by rw [foldIns_succ HXx.out]; exact ho6.base (nextBox_cells H5.out).2.2.2.2.2.2, hx5.trans hx6⟩
            case measure => simp [intOf]; omega
          · clear q0 q1 q2 q3 q4 q5 q6
            obtain ⟨q0, q1, q2, q3, q4, q5, q6⟩ := nextBox_cells H5.out
            have HFI := Lib.hid (foldIns_all (s := survivors num xs cut) hlt (joiners_le num xs cut))
            go_wp2
            refine bodyPost_ret (v := .tuple #[.agg #[.int .i64 (num + 1), .slice A5 (foldIns (survivors num xs cut) (joiners num xs cut) k).length c5], .int .i64 0]) (by simp [results, Try.results48, go_sem, q2, q3]) rfl (gives_v HF.out ?_ (((H0.out.trans H5.out).set (by simp) _).set (by simp) _))
            rw [← HFI.out]
            refine Own.set (Own.set (ho5.base (by omega)) ?_ _) ?_ _
            · intro k' hk'; have := (ho5.lt k' hk').1; simp; omega
            · intro k' hk'; have := (ho5.lt k' hk').1; simp; omega

theorem rnext_any (num : Int) (A Ac : Option Addr) (c cc : Nat) (xs cut : List Int) (w : World) (hx : Row w A (ints xs)) (hc : Row w Ac (ints cut))
    (hn : xs.length ≤ 9223372036854775807) (hnc : cut.length ≤ 9223372036854775807) :
    Calls Try.prog 48 #[.agg #[.int .i64 num, .slice A xs.length c], .slice Ac cut.length cc] w (GivesV w (nextF num xs cut)) := by
  cases h : okCut num xs cut
  · exact rnext_no num A Ac c cc xs cut w hx hc hn hnc h
  · exact rnext_yes num A Ac c cc xs cut w hx hc hn hnc h
theorem next_any (num : Int) (A Ac : Option Addr) (c cc : Nat) (xs cut : List Int) (w : World) (hx : Row w A (ints xs)) (hc : Row w Ac (ints cut))
    (hn : xs.length ≤ 9223372036854775807) (hnc : cut.length ≤ 9223372036854775807) :
    Calls Try.prog 29 #[.agg #[.int .i64 num, .slice A xs.length c], .slice Ac cut.length cc] w (GivesV w (nextF num xs cut)) := by
  cases h : okCut num xs cut
  · exact next_no num A Ac c cc xs cut w hx hc hn hnc h
  · exact next_yes num A Ac c cc xs cut w hx hc hn hnc h
end Go.Proofs.Ytagmocofmedmjaa
