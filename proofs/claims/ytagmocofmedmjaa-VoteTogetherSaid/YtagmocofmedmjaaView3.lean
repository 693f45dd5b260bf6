/- Contracts of package view: leavers, joiners, survivors. -/
import Derived.Test.YtagmocofmedmjaaView2
import Derived.Test.YtagmocofmedmjaaMerge
namespace Go.Proofs.Ytagmocofmedmjaa
open Go.RowKit

theorem split_no (num : Int) (A Ac Al Ao : Option Addr) (c cc nl cl no co : Nat) (xs cut : List Int) (w : World) (hx : Row w A (ints xs)) (hc : Row w Ac (ints cut))
    (hn : xs.length ≤ 9223372036854775807) (hnc : cut.length ≤ 9223372036854775807) (hv : okCut num xs cut = false) :
    Calls Try.prog 76 #[.agg #[.int .i64 num, .slice A xs.length c], .slice Ac cut.length cc, .slice Al nl cl, .slice Ao no co] w (GivesI2 w [] []) := by
  have HX := Lib.hid hx; have HC := Lib.hid hc
  clear hx hc
  have H0 := Lib.hid (Ext.new w (.cells #[.int .i64 num, .slice A xs.length c] 36))
  rcases okCut_not hv with hv | ⟨hv, hcv⟩
  · have HV := Lib.hid hv; clear hv
    go_enter Try.func76, Try.ntmps76
    go_wp2_with (first
      | (go_at_call 50; refine (valid_no _ _ _ _ _ (HX.out.ext H0.out) hn HV.out).mono ?_; rintro e w1 ⟨rfl, hx1⟩; have H1 := Lib.hid (Ext.trans H0.out hx1)))
    go_ret2
    exact gives_own2 (Own.nil _ _ _) (Own.nil _ _ _) H1.out
  · have HV := Lib.hid hv; have HCV := Lib.hid hcv; clear hv hcv
    go_enter Try.func76, Try.ntmps76
    go_wp2_with (first
      | (go_at_call 50; refine (valid_yes _ _ _ _ _ (HX.out.ext H0.out) hn HV.out).mono ?_; rintro e w1 ⟨rfl, hx1⟩; have H1 := Lib.hid (Ext.trans H0.out hx1))
      | (go_at_call 18; refine (validCut_no _ _ _ _ (HC.out.ext H1.out) hnc HCV.out).mono ?_; rintro e w2 ⟨rfl, rfl⟩))
    go_ret2
    exact gives_own2 (Own.nil _ _ _) (Own.nil _ _ _) H1.out

theorem GivesI.from {a w w' : World} {out : List Int} {en : Ending} (e : Ext a w) (h : GivesI w out en w') : GivesI a out en w' := by
  obtain ⟨A, c, h1, h2, h3, h4, h5⟩ := h
  refine ⟨A, c, h1, h2, h3, ?_, e.trans h5⟩
  obtain ⟨g1, g2⟩ := h4
  refine ⟨g1, ?_⟩
  rcases g2 with g2 | ⟨k, cap, cur, g3, g4, r⟩
  · exact .inl g2
  · exact .inr ⟨k, cap, cur, g3, Nat.le_trans e.size g4, r⟩

theorem leavers_any (num : Int) (A Ac : Option Addr) (c cc : Nat) (xs cut : List Int) (w : World) (hx : Row w A (ints xs)) (hc : Row w Ac (ints cut))
    (hn : xs.length ≤ 9223372036854775807) (hnc : cut.length ≤ 9223372036854775807) :
    Calls Try.prog 51 #[.agg #[.int .i64 num, .slice A xs.length c], .slice Ac cut.length cc] w (GivesI w (leavers num xs cut)) := by
  have H0 := Lib.hid (Ext.new w (.cells #[.int .i64 num, .slice A xs.length c] 36))
  have HX := Lib.hid (hx.ext H0.out); have HC := Lib.hid (hc.ext H0.out)
  clear hx hc
  by_cases hv : okCut num xs cut = true
  · have HE : Hid (leavers num xs cut = among cut xs true) := if_pos hv
    have hb : cut.length ≤ 1000 := by have := (idsB_len (m := 32) (okCut_iff.1 hv).2).2; omega
    have HV := Lib.hid (okCut_iff.1 hv)
    clear hv
    go_enter Try.func51, Try.ntmps51
    go_wp2_with (first
      | (go_at_call 76; refine (split_yes _ _ _ _ _ _ _ _ _ _ _ _ _ _ HX.out HC.out HC.out HX.out hn hnc hb hn HV.out.1 HV.out.2).mono ?_; rintro e w1 ⟨A1, c1, A2, c2, rfl, ho1, ho2, hx1⟩))
    go_ret
    exact (gives_own (by rw [HE.out]; exact ho1) hx1).from H0.out
  · have hv' : okCut num xs cut = false := by simpa using hv
    have HE : Hid (leavers num xs cut = []) := if_neg hv
    have HV := Lib.hid hv'
    clear hv hv'
    go_enter Try.func51, Try.ntmps51
    go_wp2_with (first
      | (go_at_call 76; refine (split_no _ _ _ _ _ _ _ _ _ _ _ _ _ _ HX.out HC.out hn hnc HV.out).mono ?_; rintro e w1 ⟨A1, c1, A2, c2, rfl, ho1, ho2, hx1⟩))
    go_ret
    exact (gives_own (by rw [HE.out]; exact ho1) hx1).from H0.out

theorem joiners_any (num : Int) (A Ac : Option Addr) (c cc : Nat) (xs cut : List Int) (w : World) (hx : Row w A (ints xs)) (hc : Row w Ac (ints cut))
    (hn : xs.length ≤ 9223372036854775807) (hnc : cut.length ≤ 9223372036854775807) :
    Calls Try.prog 53 #[.agg #[.int .i64 num, .slice A xs.length c], .slice Ac cut.length cc] w (GivesI w (joiners num xs cut)) := by
  have H0 := Lib.hid (Ext.new w (.cells #[.int .i64 num, .slice A xs.length c] 36))
  have HX := Lib.hid (hx.ext H0.out); have HC := Lib.hid (hc.ext H0.out)
  clear hx hc
  by_cases hv : okCut num xs cut = true
  · have HE : Hid (joiners num xs cut = among cut xs false) := if_pos hv
    have hb : cut.length ≤ 1000 := by have := (idsB_len (m := 32) (okCut_iff.1 hv).2).2; omega
    have HV := Lib.hid (okCut_iff.1 hv)
    clear hv
    go_enter Try.func53, Try.ntmps53
    go_wp2_with (first
      | (go_at_call 76; refine (split_yes _ _ _ _ _ _ _ _ _ _ _ _ _ _ HX.out HC.out HC.out HX.out hn hnc hb hn HV.out.1 HV.out.2).mono ?_; rintro e w1 ⟨A1, c1, A2, c2, rfl, ho1, ho2, hx1⟩))
    go_ret
    exact (gives_own (by rw [HE.out]; exact ho2) hx1).from H0.out
  · have hv' : okCut num xs cut = false := by simpa using hv
    have HE : Hid (joiners num xs cut = []) := if_neg hv
    have HV := Lib.hid hv'
    clear hv hv'
    go_enter Try.func53, Try.ntmps53
    go_wp2_with (first
      | (go_at_call 76; refine (split_no _ _ _ _ _ _ _ _ _ _ _ _ _ _ HX.out HC.out hn hnc HV.out).mono ?_; rintro e w1 ⟨A1, c1, A2, c2, rfl, ho1, ho2, hx1⟩))
    go_ret
    exact (gives_own (by rw [HE.out]; exact ho2) hx1).from H0.out

theorem survivors_any (num : Int) (A Ac : Option Addr) (c cc : Nat) (xs cut : List Int) (w : World) (hx : Row w A (ints xs)) (hc : Row w Ac (ints cut))
    (hn : xs.length ≤ 9223372036854775807) (hnc : cut.length ≤ 9223372036854775807) :
    Calls Try.prog 55 #[.agg #[.int .i64 num, .slice A xs.length c], .slice Ac cut.length cc] w (GivesI w (survivors num xs cut)) := by
  have H0 := Lib.hid (Ext.new w (.cells #[.int .i64 num, .slice A xs.length c] 36))
  have HX := Lib.hid (hx.ext H0.out); have HC := Lib.hid (hc.ext H0.out)
  clear hx hc
  by_cases hv : okCut num xs cut = true
  · have HE : Hid (survivors num xs cut = among xs cut false) := if_pos hv
    have hb : xs.length ≤ 1000 := by have := (validB_len (okCut_iff.1 hv).1).2; omega
    have HV := Lib.hid (okCut_iff.1 hv)
    clear hv
    go_enter Try.func55, Try.ntmps55
    go_wp2_with (first
      | (go_at_call 76; refine (split_yes _ _ _ _ _ _ _ _ _ _ _ _ _ _ HX.out HC.out HX.out HC.out hn hnc hb hnc HV.out.1 HV.out.2).mono ?_; rintro e w1 ⟨A1, c1, A2, c2, rfl, ho1, ho2, hx1⟩))
    go_ret
    exact (gives_own (by rw [HE.out]; exact ho2) hx1).from H0.out
  · have hv' : okCut num xs cut = false := by simpa using hv
    have HE : Hid (survivors num xs cut = []) := if_neg hv
    have HV := Lib.hid hv'
    clear hv hv'
    go_enter Try.func55, Try.ntmps55
    go_wp2_with (first
      | (go_at_call 76; refine (split_no _ _ _ _ _ _ _ _ _ _ _ _ _ _ HX.out HC.out hn hnc HV.out).mono ?_; rintro e w1 ⟨A1, c1, A2, c2, rfl, ho1, ho2, hx1⟩))
    go_ret
    exact (gives_own (by rw [HE.out]; exact ho2) hx1).from H0.out
end Go.Proofs.Ytagmocofmedmjaa
