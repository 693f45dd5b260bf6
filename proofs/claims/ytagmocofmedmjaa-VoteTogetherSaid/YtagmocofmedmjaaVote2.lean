/- Contracts: whether a cut can be applied; whether a box is small; whether a member has voted; whether two boxes are equal; a clone of ints. -/
import Derived.Test.YtagmocofmedmjaaVotes
import Derived.Test.YtagmocofmedmjaaRef3d
namespace Go.Proofs.Ytagmocofmedmjaa
open Go.RowKit

def applF (num : Int) (xs cut : List Int) : Bool := (nextF num xs cut).2.2 == 0

theorem applicable_any (num : Int) (A Ac : Option Addr) (c cc : Nat) (xs cut : List Int) (w : World) (hx : Row w A (ints xs)) (hc : Row w Ac (ints cut))
    (hn : xs.length ≤ 9223372036854775807) (hnc : cut.length ≤ 9223372036854775807) :
    Calls Try.prog 67 #[.agg #[.int .i64 num, .slice A xs.length c], .slice Ac cut.length cc] w fun e w' => e = .returned (.bool (applF num xs cut)) ∧ Ext w w' := by
  have H0 := Lib.hid (Ext.new w (.cells #[.int .i64 num, .slice A xs.length c] 36))
  have HX := Lib.hid (hx.ext H0.out); have HC := Lib.hid (hc.ext H0.out)
  clear hx hc
  obtain ⟨⟨n', ys, er⟩, hr⟩ : ∃ r, nextF num xs cut = r := ⟨_, rfl⟩
  have HR := Lib.hid hr
  have HF : Hid (applF num xs cut = (er == 0)) := Lib.hid (by rw [applF, hr])
  clear hr
  go_enter Try.func67, Try.ntmps67
  go_wp2_with fail
  refine (next_any num A Ac c cc xs cut _ HX.out HC.out hn hnc).mono ?_
  rw [HR.out]
  rintro e w1 ⟨A1, c1, rfl, _, _, _, hx1⟩
  have X1 := Lib.hid (H0.out.trans hx1)
  clear hx1 HX HC H0
  by_cases he : er = 0
  · subst he
    go_wp2
    go_ret
    exact ⟨ret_bool (by rw [HF.out]; rfl), X1.out.alloc _⟩
  · have he' : (er == 0) = false := by simpa using he
    go_wp2
    go_ret
    exact ⟨ret_bool (by rw [HF.out]; exact he'.symm), X1.out.alloc _⟩

theorem rapplicable_any (num : Int) (A Ac : Option Addr) (c cc : Nat) (xs cut : List Int) (w : World) (hx : Row w A (ints xs)) (hc : Row w Ac (ints cut))
    (hn : xs.length ≤ 9223372036854775807) (hnc : cut.length ≤ 9223372036854775807) :
    Calls Try.prog 70 #[.agg #[.int .i64 num, .slice A xs.length c], .slice Ac cut.length cc] w fun e w' => e = .returned (.bool (applF num xs cut)) ∧ Ext w w' := by
  have H0 := Lib.hid (Ext.new w (.cells #[.int .i64 num, .slice A xs.length c] 36))
  have HX := Lib.hid (hx.ext H0.out); have HC := Lib.hid (hc.ext H0.out)
  clear hx hc
  obtain ⟨⟨n', ys, er⟩, hr⟩ : ∃ r, nextF num xs cut = r := ⟨_, rfl⟩
  have HR := Lib.hid hr
  have HF : Hid (applF num xs cut = (er == 0)) := Lib.hid (by rw [applF, hr])
  clear hr
  go_enter Try.func70, Try.ntmps70
  go_wp2_with fail
  refine (rnext_any num A Ac c cc xs cut _ HX.out HC.out hn hnc).mono ?_
  rw [HR.out]
  rintro e w1 ⟨A1, c1, rfl, _, _, _, hx1⟩
  have X1 := Lib.hid (H0.out.trans hx1)
  clear hx1 HX HC H0
  by_cases he : er = 0
  · subst he
    go_wp2
    go_ret
    exact ⟨ret_bool (by rw [HF.out]; rfl), X1.out.alloc _⟩
  · have he' : (er == 0) = false := by simpa using he
    go_wp2
    go_ret
    exact ⟨ret_bool (by rw [HF.out]; exact he'.symm), X1.out.alloc _⟩

/-- no cut of the box is long -/
def shortB (ps : List (Int × List Int)) : Bool := ps.all fun p => decide (p.2.length ≤ 60)
def smallX (k : Nat) (ps : List (Int × List Int)) : Bool := shortB ps && (decide (k ≤ 60) && decide (ps.length ≤ 60))
theorem short_step {ps : List (Int × List Int)} {k : Nat} {p : Int × List Int} (h : ps[k]? = some p) (h1 : shortB (ps.take k) = true) (h2 : p.2.length ≤ 60) : shortB (ps.take (k + 1)) = true := by
  unfold shortB at *
  rw [List.take_add_one, h]
  simp only [List.all_append, h1, Bool.true_and, Option.toList_some, List.all_cons, List.all_nil, Bool.and_true, decide_eq_true_eq]
  exact h2
theorem short_no {ps : List (Int × List Int)} {k : Nat} {p : Int × List Int} (h : ps[k]? = some p) (h2 : ¬ p.2.length ≤ 60) (n : Nat) : smallX n ps = false := by
  have hm : p ∈ ps := List.mem_of_getElem? h
  unfold smallX
  rw [show shortB ps = false from by rw [shortB, List.all_eq_false]; exact ⟨p, hm, by simpa using h2⟩]; rfl
theorem short_all {ps : List (Int × List Int)} {k : Nat} (h : ¬ k < ps.length) (h1 : shortB (ps.take k) = true) : shortB ps = true := by
  rw [List.take_of_length_le (by omega)] at h1; exact h1

theorem small_end {ps : List (Int × List Int)} {k : Nat} (h : k ≤ 60) (h1 : shortB ps = true) : decide ((ps.length : Int) ≤ 60) = smallX k ps := by
  rw [smallX, h1, Bool.true_and, decide_eq_true h, Bool.true_and, decide_eq_decide]; omega
theorem small8_any (num : Int) (A B : Option Addr) (c d : Nat) (xs : List Int) (bs : List Bal) (w : World) (h : Box w B bs) (hn : xs.length ≤ 9223372036854775807) (hm : bs.length ≤ 9223372036854775807) :
    Calls Try.prog 32 #[.agg #[.int .i64 num, .slice A xs.length c], .slice B bs.length d] w fun e w' => e = .returned (.bool (smallX xs.length (prs bs))) ∧ Ext w w' := by
  have H0 := Lib.hid (Ext.new w (.cells #[.int .i64 num, .slice A xs.length c] 36))
  have HB := Lib.hid (h.ext H0.out)
  clear h
  go_enter Try.func32, Try.ntmps32
  go_wp2
  go_loopw [5] (fun i wr => ∃ k : Nat, k ≤ bs.length ∧ i = .int .i64 k ∧ Hid (shortB ((prs bs).take k) = true) ∧ wr = w.alloc (.cells #[.int .i64 num, .slice A xs.length c] 36)) (fun i _ => bs.length - (intOf i).toNat)
  case atStart => exact ⟨0, Nat.zero_le _, rfl, rfl, rfl⟩
  case round =>
    obtain ⟨k, hk, rfl, HT, rfl⟩ := hrel
    by_cases hlt : k < bs.length
    · obtain ⟨b, off, m, X, cx, ct, rfl, hb, c0, c1, HR, hl1, hl2, HX⟩ := HB.out.at_ hlt
      unfold maxLen at hl2
      by_cases h60 : ct.length ≤ 60
      · have HH := Lib.hid h60
        have h60' : ¬ 60 < ct.length := by omega
        go_wp2
        go_roundw
        case rel => exact ⟨k + 1, by omega, by go_num, short_step (prs_at HX.out) HT.out HH.out, trivial⟩
        case measure => simp [intOf]; omega
      · have HH := Lib.hid h60
        have h60' : 60 < ct.length := by omega
        clear h60
        go_wp2
        go_ret
        exact ⟨ret_bool (short_no (prs_at HX.out) HH.out _).symm, H0.out⟩
    · have HA := Lib.hid (short_all (by rw [prs_len]; exact hlt) HT.out)
      by_cases h1 : xs.length ≤ 60
      · have HQ := Lib.hid (small_end (ps := prs bs) h1 HA.out)
        rw [prs_len] at HQ
        go_wp2
        go_ret
        exact ⟨ret_bool HQ.out, H0.out⟩
      · have h1' : 60 < xs.length := by omega
        have H1 := Lib.hid h1
        clear h1
        go_wp2
        go_ret
        exact ⟨ret_bool (show false = _ from by simp only [smallX, decide_eq_false H1.out, Bool.and_false, Bool.false_and]), H0.out⟩

/-- a member has a ballot in the box -/
def votedB (ps : List (Int × List Int)) (m : Int) : Bool := ps.any fun p => p.1 == m
theorem voted_step {ps : List (Int × List Int)} {k : Nat} {p : Int × List Int} {m : Int} (h : ps[k]? = some p) (h1 : votedB (ps.take k) m = false) (h2 : (p.1 == m) = false) : votedB (ps.take (k + 1)) m = false := by
  unfold votedB at *
  rw [List.take_add_one, h]
  simp only [List.any_append, h1, Bool.false_or, Option.toList_some, List.any_cons, List.any_nil, Bool.or_false]
  exact h2
theorem voted_yes {ps : List (Int × List Int)} {k : Nat} {p : Int × List Int} {m : Int} (h : ps[k]? = some p) (h2 : (p.1 == m) = true) : votedB ps m = true := by
  rw [votedB, List.any_eq_true]; exact ⟨p, List.mem_of_getElem? h, h2⟩
theorem voted_all {ps : List (Int × List Int)} {k : Nat} {m : Int} (h : ¬ k < ps.length) (h1 : votedB (ps.take k) m = false) : votedB ps m = false := by
  rw [List.take_of_length_le (by omega)] at h1; exact h1

theorem of_any (B : Option Addr) (d : Nat) (bs : List Bal) (m : Int) (w : World) (h : Box w B bs) (hm : bs.length ≤ 9223372036854775807) :
    Calls Try.prog 71 #[.slice B bs.length d, .int .i64 m] w fun e w' => (∃ r : Int, e = .returned (.int .i64 r) ∧ decide (0 ≤ r) = votedB (prs bs) m) ∧ w = w' := by
  have HB := Lib.hid h
  clear h
  go_enter Try.func71, Try.ntmps71
  go_wp2
  go_loopw [5] (fun i wr => ∃ k : Nat, k ≤ bs.length ∧ i = .int .i64 k ∧ Hid (votedB ((prs bs).take k) m = false) ∧ wr = w) (fun i _ => bs.length - (intOf i).toNat)
  case atStart => exact ⟨0, Nat.zero_le _, rfl, rfl, rfl⟩
  case round =>
    obtain ⟨k, hk, rfl, HT, rfl⟩ := hrel
    by_cases hlt : k < bs.length
    · obtain ⟨b, off, m', X, cx, ct, rfl, hb, c0, c1, HR, hl1, hl2, HX⟩ := HB.out.at_ hlt
      by_cases he : (m' == m) = true
      · have HE := Lib.hid he
        go_wp2
        go_ret
        exact ⟨⟨k, rfl, by rw [voted_yes (prs_at HX.out) HE.out]; simp⟩, rfl⟩
      · have he' : (m' == m) = false := by simpa using he
        have HE := Lib.hid he'
        clear he
        go_wp2
        go_roundw
        case rel => exact ⟨k + 1, by omega, by go_num, voted_step (prs_at HX.out) HT.out HE.out, trivial⟩
        case measure => simp [intOf]; omega
    · go_wp2
      go_ret
      exact ⟨⟨-1, rfl, by rw [voted_all (by rw [prs_len]; exact hlt) HT.out]; decide⟩, rfl⟩
end Go.Proofs.Ytagmocofmedmjaa
