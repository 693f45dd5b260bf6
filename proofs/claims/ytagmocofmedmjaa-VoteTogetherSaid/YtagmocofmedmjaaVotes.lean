/- Contracts of fastvote.Same, fastvote.Votes and the reference's Votes. -/
import Derived.Test.YtagmocofmedmjaaBal
namespace Go.Proofs.Ytagmocofmedmjaa
open Go.RowKit

theorem fsame_any (A A' : Option Addr) (c c' : Nat) (xs ys : List Int) (w : World) (h : Row w A (ints xs)) (h' : Row w A' (ints ys)) (hn : xs.length ≤ 9223372036854775807) :
    Calls Try.prog 38 #[.slice A xs.length c, .slice A' ys.length c'] w fun e w' => e = .returned (.bool (sameB xs ys)) ∧ Ext w w' := by
  have H := Lib.hid h; have H' := Lib.hid h'; clear h h'
  go_enter Try.func38, Try.ntmps38
  go_wp2_with fail
  refine (equal_any _ _ _ _ _ _ _ H.out H'.out hn).mono ?_
  rintro e w1 ⟨rfl, hs⟩
  go_wp2
  go_ret
  exact ⟨rfl, hs.ext⟩

theorem rvotes_any (A C : Option Addr) (c d : Nat) (bs : List Bal) (cut : List Int) (w : World) (h : Box w A bs) (hc : Row w C (ints cut)) (hn : bs.length ≤ 1000) :
    Calls Try.prog 43 #[.slice A bs.length c, .slice C cut.length d] w fun e w' => e = .returned (.int .i64 (votesF (prs bs) cut)) ∧ Still w w' := by
  have H := Lib.hid h; have HC := Lib.hid hc; clear h hc
  go_enter Try.func43, Try.ntmps43
  go_wp2
  go_loopw [5, 6] (fun n i wr => ∃ k : Nat, k ≤ bs.length ∧ i = .int .i64 k ∧ n = .int .i64 (votesF ((prs bs).take k) cut) ∧ Still w wr) (fun _ i _ => bs.length - (intOf i).toNat)
  case atStart => exact ⟨0, Nat.zero_le _, rfl, rfl, Still.refl _⟩
  case round =>
    obtain ⟨k, hk, rfl, rfl, HS0⟩ := hrel
    have HS := Lib.hid HS0; clear HS0
    by_cases hlt : k < bs.length
    · obtain ⟨b, off, m, X, cx, ct, rfl, hb, c0, c1, HR, hl1, hl2, HX⟩ := (H.out.ext HS.out.ext).at_ hlt
      unfold maxLen at hl2
      have HT := Lib.hid (votes_step (cut := cut) (prs_at HX.out))
      have hv := votes_take (prs bs) k cut
      generalize votesF ((prs bs).take k) cut = n at *
      go_wp2_with fail
      refine (sameInts_any _ _ _ _ ct cut _ HR.out (HC.out.ext HS.out.ext) (by omega)).mono ?_
      rintro e w1 ⟨rfl, hs⟩
      have HS1 := Lib.hid (HS.out.trans hs)
      cases hb : sameB ct cut
      · go_wp2
        go_roundw
        case rel => exact ⟨k + 1, by omega, by go_num, by rw [HT.out]; simp [hb], HS1.out⟩
        case measure => simp [intOf]; omega
      · go_wp2
        go_roundw
        case rel => exact ⟨k + 1, by omega, by go_num, by rw [HT.out]; simp [hb], HS1.out⟩
        case measure => simp [intOf]; omega
    · go_wp2
      go_ret
      exact ⟨ret_int (congrArg Nat.cast (votes_all (by rw [prs_len]; exact hlt))), HS.out⟩

theorem votes_any (A C : Option Addr) (c d : Nat) (bs : List Bal) (cut : List Int) (w : World) (h : Box w A bs) (hc : Row w C (ints cut)) (hn : bs.length ≤ 1000) :
    Calls Try.prog 42 #[.slice A bs.length c, .slice C cut.length d] w fun e w' => e = .returned (.int .i64 (votesF (prs bs) cut)) ∧ Ext w w' := by
  have H := Lib.hid h; have HC := Lib.hid hc; clear h hc
  go_enter Try.func42, Try.ntmps42
  go_wp2
  go_loopw [5, 10] (fun n i wr => ∃ k : Nat, k ≤ bs.length ∧ i = .int .i64 k ∧ n = .int .i64 (votesF ((prs bs).take k) cut) ∧ Ext w wr) (fun _ i _ => bs.length - (intOf i).toNat)
  case atStart => exact ⟨0, Nat.zero_le _, rfl, rfl, Ext.refl _⟩
  case round =>
    obtain ⟨k, hk, rfl, rfl, HS0⟩ := hrel
    have HS := Lib.hid HS0; clear HS0
    by_cases hlt : k < bs.length
    · obtain ⟨b, off, m, X, cx, ct, rfl, hb, c0, c1, HR, hl1, hl2, HX⟩ := (H.out.ext HS.out).at_ hlt
      unfold maxLen at hl2
      have HT := Lib.hid (votes_step (cut := cut) (prs_at HX.out))
      have hv := votes_take (prs bs) k cut
      generalize votesF ((prs bs).take k) cut = n at *
      go_wp2_with fail
      refine Calls.mono (fsame_any _ _ _ _ ct cut _ ?r1 ?r2 (by omega)) ?_
      case r1 => exact HR.out.ext (Ext.new _ _)
      case r2 => exact (HC.out.ext HS.out).ext (Ext.new _ _)
      rintro e w1 ⟨rfl, hs⟩
      have HS1 := Lib.hid (HS.out.trans ((Ext.new _ _).trans hs))
      cases hb : sameB ct cut
      · go_wp2
        go_roundw
        case rel => exact ⟨k + 1, by omega, by go_num, by rw [HT.out]; simp [hb], HS1.out⟩
        case measure => simp [intOf]; omega
      · go_wp2
        go_roundw
        case rel => exact ⟨k + 1, by omega, by go_num, by rw [HT.out]; simp [hb], HS1.out⟩
        case measure => simp [intOf]; omega
    · go_wp2
      go_ret
      exact ⟨ret_int (congrArg Nat.cast (votes_all (by rw [prs_len]; exact hlt))), HS.out⟩
end Go.Proofs.Ytagmocofmedmjaa
