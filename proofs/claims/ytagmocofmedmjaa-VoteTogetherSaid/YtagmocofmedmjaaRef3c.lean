/- Contracts of the reference of layer 3: cuts, Next, Diff, Same. -/
import Derived.Test.YtagmocofmedmjaaRef3b
import Derived.Test.YtagmocofmedmjaaNext
import Derived.Test.YtagmocofmedmjaaPlain2
import Derived.Test.YtagmocofmedmjaaSame
namespace Go.Proofs.Ytagmocofmedmjaa
open Go.RowKit

theorem rvalid_yes (num : Int) (A : Option Addr) (c : Nat) (xs : List Int) (w : World) (h : Row w A (ints xs)) (hn : xs.length ≤ 9223372036854775807) (hv : validB num xs = true) :
    Calls Try.prog 47 #[.agg #[.int .i64 num, .slice A xs.length c]] w fun e w' => e = .returned (.bool true) ∧ Ext w w' := by
  rw [← hv]; exact rvalid_any num A c xs w h hn
theorem rvalid_no (num : Int) (A : Option Addr) (c : Nat) (xs : List Int) (w : World) (h : Row w A (ints xs)) (hn : xs.length ≤ 9223372036854775807) (hv : validB num xs = false) :
    Calls Try.prog 47 #[.agg #[.int .i64 num, .slice A xs.length c]] w fun e w' => e = .returned (.bool false) ∧ Ext w w' := by
  rw [← hv]; exact rvalid_any num A c xs w h hn
theorem rvalidCut_yes (A : Option Addr) (c : Nat) (xs : List Int) (w : World) (h : Row w A (ints xs)) (hn : xs.length ≤ 9223372036854775807) (hv : idsB xs 32 = true) :
    Calls Try.prog 19 #[.slice A xs.length c] w fun e w' => e = .returned (.bool true) ∧ Still w w' := by
  rw [← hv]; exact rvalidCut_any A c xs w h hn
theorem rvalidCut_no (A : Option Addr) (c : Nat) (xs : List Int) (w : World) (h : Row w A (ints xs)) (hn : xs.length ≤ 9223372036854775807) (hv : idsB xs 32 = false) :
    Calls Try.prog 19 #[.slice A xs.length c] w fun e w' => e = .returned (.bool false) ∧ Still w w' := by
  rw [← hv]; exact rvalidCut_any A c xs w h hn

theorem rleavers_any (num : Int) (A Ac : Option Addr) (c cc : Nat) (xs cut : List Int) (w : World) (hx : Row w A (ints xs)) (hc : Row w Ac (ints cut))
    (hn : xs.length ≤ 9223372036854775807) (hnc : cut.length ≤ 9223372036854775807) :
    Calls Try.prog 52 #[.agg #[.int .i64 num, .slice A xs.length c], .slice Ac cut.length cc] w (GivesI w (leavers num xs cut)) := by
  have H0 := Lib.hid (Ext.new w (.cells #[.int .i64 num, .slice A xs.length c] 36))
  have HX := Lib.hid (hx.ext H0.out); have HC := Lib.hid (hc.ext H0.out)
  clear hx hc
  by_cases hv : okCut num xs cut = true
  · have HE : Hid (leavers num xs cut = among cut xs true) := if_pos hv
    have hb : cut.length ≤ 1000000 := by have := (idsB_len (m := 32) (okCut_iff.1 hv).2).2; omega
    have HV := Lib.hid (okCut_iff.1 hv)
    clear hv
    go_enter Try.func52, Try.ntmps52
    go_wp2_with (first
      | (go_at_call 47; refine (rvalid_yes _ _ _ _ _ HX.out hn HV.out.1).mono ?_; rintro e w1 ⟨rfl, hx1⟩; have q1 := hx1.cell_new 1; simp at q1; have HX1 := Lib.hid (HX.out.ext hx1); have HC1 := Lib.hid (HC.out.ext hx1); have H1 := Lib.hid (H0.out.trans hx1); clear hx1)
      | (go_at_call 19; refine (rvalidCut_yes _ _ _ _ HC1.out hnc HV.out.2).mono ?_; rintro e w2 ⟨rfl, hs2⟩; have q2 := (hs2.ext.cell (p := ⟨w.heap.size, 1, none⟩) (by have := H1.out.size; exact World.block_lt_of_cell? _ _ q1)).trans q1; have HX2 := Lib.hid (HX1.out.ext hs2.ext); have HC2 := Lib.hid (HC1.out.ext hs2.ext); have H2 := Lib.hid (H1.out.trans hs2.ext); clear hs2)
      | (go_at_call 77; refine (ramong_any _ _ _ _ _ _ _ _ HC2.out HX2.out hb hn).mono ?_; rintro e w3 ⟨A3, c3, rfl, hc3, hm3, ho3, hx3⟩))
    go_ret
    exact (gives_own (by rw [HE.out]; exact ho3) hx3).from H2.out
  · have hv' : okCut num xs cut = false := by simpa using hv
    have HE : Hid (leavers num xs cut = []) := if_neg hv
    clear hv
    rcases okCut_not hv' with hv | ⟨hv, hcv⟩
    · have HV := Lib.hid hv; clear hv hv'
      go_enter Try.func52, Try.ntmps52
      go_wp2_with (first
        | (go_at_call 47; refine (rvalid_no _ _ _ _ _ HX.out hn HV.out).mono ?_; rintro e w1 ⟨rfl, hx1⟩))
      go_ret
      exact gives_own (by rw [HE.out]; exact Own.nil _ _ _) (H0.out.trans hx1)
    · have HV := Lib.hid hv; have HCV := Lib.hid hcv; clear hv hcv hv'
      go_enter Try.func52, Try.ntmps52
      go_wp2_with (first
        | (go_at_call 47; refine (rvalid_yes _ _ _ _ _ HX.out hn HV.out).mono ?_; rintro e w1 ⟨rfl, hx1⟩; have HC1 := Lib.hid (HC.out.ext hx1); have H1 := Lib.hid (H0.out.trans hx1); clear hx1)
        | (go_at_call 19; refine (rvalidCut_no _ _ _ _ HC1.out hnc HCV.out).mono ?_; rintro e w2 ⟨rfl, hs2⟩))
      go_ret
      exact gives_own (by rw [HE.out]; exact Own.nil _ _ _) (H1.out.trans hs2.ext)

theorem rjoiners_any (num : Int) (A Ac : Option Addr) (c cc : Nat) (xs cut : List Int) (w : World) (hx : Row w A (ints xs)) (hc : Row w Ac (ints cut))
    (hn : xs.length ≤ 9223372036854775807) (hnc : cut.length ≤ 9223372036854775807) :
    Calls Try.prog 54 #[.agg #[.int .i64 num, .slice A xs.length c], .slice Ac cut.length cc] w (GivesI w (joiners num xs cut)) := by
  have H0 := Lib.hid (Ext.new w (.cells #[.int .i64 num, .slice A xs.length c] 36))
  have HX := Lib.hid (hx.ext H0.out); have HC := Lib.hid (hc.ext H0.out)
  clear hx hc
  by_cases hv : okCut num xs cut = true
  · have HE : Hid (joiners num xs cut = among cut xs false) := if_pos hv
    have hb : cut.length ≤ 1000000 := by have := (idsB_len (m := 32) (okCut_iff.1 hv).2).2; omega
    have HV := Lib.hid (okCut_iff.1 hv)
    clear hv
    go_enter Try.func54, Try.ntmps54
    go_wp2_with (first
      | (go_at_call 47; refine (rvalid_yes _ _ _ _ _ HX.out hn HV.out.1).mono ?_; rintro e w1 ⟨rfl, hx1⟩; have q1 := hx1.cell_new 1; simp at q1; have HX1 := Lib.hid (HX.out.ext hx1); have HC1 := Lib.hid (HC.out.ext hx1); have H1 := Lib.hid (H0.out.trans hx1); clear hx1)
      | (go_at_call 19; refine (rvalidCut_yes _ _ _ _ HC1.out hnc HV.out.2).mono ?_; rintro e w2 ⟨rfl, hs2⟩; have q2 := (hs2.ext.cell (p := ⟨w.heap.size, 1, none⟩) (by have := H1.out.size; exact World.block_lt_of_cell? _ _ q1)).trans q1; have HX2 := Lib.hid (HX1.out.ext hs2.ext); have HC2 := Lib.hid (HC1.out.ext hs2.ext); have H2 := Lib.hid (H1.out.trans hs2.ext); clear hs2)
      | (go_at_call 77; refine (ramong_any _ _ _ _ _ _ _ _ HC2.out HX2.out hb hn).mono ?_; rintro e w3 ⟨A3, c3, rfl, hc3, hm3, ho3, hx3⟩))
    go_ret
    exact (gives_own (by rw [HE.out]; exact ho3) hx3).from H2.out
  · have hv' : okCut num xs cut = false := by simpa using hv
    have HE : Hid (joiners num xs cut = []) := if_neg hv
    clear hv
    rcases okCut_not hv' with hv | ⟨hv, hcv⟩
    · have HV := Lib.hid hv; clear hv hv'
      go_enter Try.func54, Try.ntmps54
      go_wp2_with (first
        | (go_at_call 47; refine (rvalid_no _ _ _ _ _ HX.out hn HV.out).mono ?_; rintro e w1 ⟨rfl, hx1⟩))
      go_ret
      exact gives_own (by rw [HE.out]; exact Own.nil _ _ _) (H0.out.trans hx1)
    · have HV := Lib.hid hv; have HCV := Lib.hid hcv; clear hv hcv hv'
      go_enter Try.func54, Try.ntmps54
      go_wp2_with (first
        | (go_at_call 47; refine (rvalid_yes _ _ _ _ _ HX.out hn HV.out).mono ?_; rintro e w1 ⟨rfl, hx1⟩; have HC1 := Lib.hid (HC.out.ext hx1); have H1 := Lib.hid (H0.out.trans hx1); clear hx1)
        | (go_at_call 19; refine (rvalidCut_no _ _ _ _ HC1.out hnc HCV.out).mono ?_; rintro e w2 ⟨rfl, hs2⟩))
      go_ret
      exact gives_own (by rw [HE.out]; exact Own.nil _ _ _) (H1.out.trans hs2.ext)

theorem rsurvivors_any (num : Int) (A Ac : Option Addr) (c cc : Nat) (xs cut : List Int) (w : World) (hx : Row w A (ints xs)) (hc : Row w Ac (ints cut))
    (hn : xs.length ≤ 9223372036854775807) (hnc : cut.length ≤ 9223372036854775807) :
    Calls Try.prog 56 #[.agg #[.int .i64 num, .slice A xs.length c], .slice Ac cut.length cc] w (GivesI w (survivors num xs cut)) := by
  have H0 := Lib.hid (Ext.new w (.cells #[.int .i64 num, .slice A xs.length c] 36))
  have HX := Lib.hid (hx.ext H0.out); have HC := Lib.hid (hc.ext H0.out)
  clear hx hc
  by_cases hv : okCut num xs cut = true
  · have HE : Hid (survivors num xs cut = among xs cut false) := if_pos hv
    have hb : xs.length ≤ 1000000 := by have := (validB_len (okCut_iff.1 hv).1).2; omega
    have HV := Lib.hid (okCut_iff.1 hv)
    clear hv
    go_enter Try.func56, Try.ntmps56
    go_wp2_with (first
      | (go_at_call 47; refine (rvalid_yes _ _ _ _ _ HX.out hn HV.out.1).mono ?_; rintro e w1 ⟨rfl, hx1⟩; have q1 := hx1.cell_new 1; simp at q1; have HX1 := Lib.hid (HX.out.ext hx1); have HC1 := Lib.hid (HC.out.ext hx1); have H1 := Lib.hid (H0.out.trans hx1); clear hx1)
      | (go_at_call 19; refine (rvalidCut_yes _ _ _ _ HC1.out hnc HV.out.2).mono ?_; rintro e w2 ⟨rfl, hs2⟩; have q2 := (hs2.ext.cell (p := ⟨w.heap.size, 1, none⟩) (by have := H1.out.size; exact World.block_lt_of_cell? _ _ q1)).trans q1; have HX2 := Lib.hid (HX1.out.ext hs2.ext); have HC2 := Lib.hid (HC1.out.ext hs2.ext); have H2 := Lib.hid (H1.out.trans hs2.ext); clear hs2)
      | (go_at_call 77; refine (ramong_any _ _ _ _ _ _ _ _ HX2.out HC2.out hb hnc).mono ?_; rintro e w3 ⟨A3, c3, rfl, hc3, hm3, ho3, hx3⟩))
    go_ret
    exact (gives_own (by rw [HE.out]; exact ho3) hx3).from H2.out
  · have hv' : okCut num xs cut = false := by simpa using hv
    have HE : Hid (survivors num xs cut = []) := if_neg hv
    clear hv
    rcases okCut_not hv' with hv | ⟨hv, hcv⟩
    · have HV := Lib.hid hv; clear hv hv'
      go_enter Try.func56, Try.ntmps56
      go_wp2_with (first
        | (go_at_call 47; refine (rvalid_no _ _ _ _ _ HX.out hn HV.out).mono ?_; rintro e w1 ⟨rfl, hx1⟩))
      go_ret
      exact gives_own (by rw [HE.out]; exact Own.nil _ _ _) (H0.out.trans hx1)
    · have HV := Lib.hid hv; have HCV := Lib.hid hcv; clear hv hcv hv'
      go_enter Try.func56, Try.ntmps56
      go_wp2_with (first
        | (go_at_call 47; refine (rvalid_yes _ _ _ _ _ HX.out hn HV.out).mono ?_; rintro e w1 ⟨rfl, hx1⟩; have HC1 := Lib.hid (HC.out.ext hx1); have H1 := Lib.hid (H0.out.trans hx1); clear hx1)
        | (go_at_call 19; refine (rvalidCut_no _ _ _ _ HC1.out hnc HCV.out).mono ?_; rintro e w2 ⟨rfl, hs2⟩))
      go_ret
      exact gives_own (by rw [HE.out]; exact Own.nil _ _ _) (H1.out.trans hs2.ext)
end Go.Proofs.Ytagmocofmedmjaa
