/- Contracts: two boxes are equal (the reference's Same); a clone of ints. -/
import Derived.Test.YtagmocofmedmjaaVote2
namespace Go.Proofs.Ytagmocofmedmjaa
open Go.RowKit

theorem takes_step {α : Type} {xs ys : List α} {k : Nat} {x y : α} (hx : xs[k]? = some x) (hy : ys[k]? = some y) (he : x = y) (h : xs.take k = ys.take k) : xs.take (k + 1) = ys.take (k + 1) := by
  rw [List.take_add_one, List.take_add_one, h, hx, hy, he]
theorem takes_all {α : Type} {xs ys : List α} {k : Nat} (h1 : ¬ k < xs.length) (h2 : xs.length = ys.length) (h : xs.take k = ys.take k) : xs = ys := by
  rw [List.take_of_length_le (by omega), List.take_of_length_le (by omega)] at h; exact h
theorem takes_diff {α : Type} {xs ys : List α} {k : Nat} {x y : α} (hx : xs[k]? = some x) (hy : ys[k]? = some y) (he : x ≠ y) : xs ≠ ys := by
  intro h; subst h; rw [hx] at hy; exact he (Option.some.inj hy)
theorem sameInts_b (A A' : Option Addr) (c c' : Nat) (xs ys : List Int) (w : World) (h : Row w A (ints xs)) (h' : Row w A' (ints ys)) (hn : xs.length ≤ 9223372036854775807) (b : Bool) (hb : sameB xs ys = b) :
    Calls Try.prog 72 #[.slice A xs.length c, .slice A' ys.length c'] w fun e w' => e = .returned (.bool b) ∧ Still w w' := by
  subst hb; exact sameInts_any A A' c c' xs ys w h h' hn

/-- two boxes say the same -/
def sameP (ps qs : List (Int × List Int)) : Bool := decide (ps = qs)

set_option maxHeartbeats 1000000 in
theorem rsame8_any (A B : Option Addr) (c d : Nat) (bs cs : List Bal) (w : World) (h : Box w A bs) (h' : Box w B cs) (hn : bs.length ≤ 1000) :
    Calls Try.prog 35 #[.slice A bs.length c, .slice B cs.length d] w fun e w' => e = .returned (.bool (sameP (prs bs) (prs cs))) ∧ Still w w' := by
  have H := Lib.hid h; have H' := Lib.hid h'; clear h h'
  by_cases hl : bs.length = cs.length
  · have HL := Lib.hid (show (prs bs).length = (prs cs).length by rw [prs_len, prs_len, hl])
    have hb : ((bs.length : Int) != (cs.length : Int)) = false := by simp [hl]
    have hle : cs.length ≤ bs.length := by omega
    have hge : bs.length ≤ cs.length := by omega
    clear hl
    go_enter Try.func35, Try.ntmps35
    go_wp2
    go_loopw [5] (fun i wr => ∃ k : Nat, k ≤ bs.length ∧ i = .int .i64 k ∧ Hid ((prs bs).take k = (prs cs).take k) ∧ Still w wr) (fun i _ => bs.length - (intOf i).toNat)
    case atStart => exact ⟨0, Nat.zero_le _, rfl, rfl, Still.refl _⟩
    case round =>
      obtain ⟨k, hk, rfl, HT, HS0⟩ := hrel
      have HS := Lib.hid HS0; clear HS0
      by_cases hlt : k < bs.length
      · obtain ⟨b, off, m, X, cx, ct, rfl, hb1, c0, c1, HR, hl1, hl2, HX⟩ := (H.out.ext HS.out.ext).at_ hlt
        obtain ⟨b', off', m', X', cx', ct', rfl, hb2, d0, d1, HR', hl3, hl4, HX'⟩ := (H'.out.ext HS.out.ext).at_ (show k < cs.length by omega)
        unfold maxLen at hl2
        by_cases he : m = m'
        · have he' : (m != m') = false := by simp [he]
          have HE := Lib.hid he; clear he
          cases hq : sameB ct ct'
          · have HQ := Lib.hid hq; clear hq
            have hbd : ct.length ≤ 9223372036854775807 := by omega
            go_wp2
            go_quiet ((go_at_call 72; exact quiet_still (sameInts_b _ _ _ _ ct ct' _ (HR.out.drewN _) (HR'.out.drewN _) hbd _ HQ.out)))
            go_wp2
            go_ret
            exact ⟨ret_bool (show false = _ from (decide_eq_false (takes_diff (prs_at HX.out) (prs_at HX'.out) (fun e => by have := HQ.out; simp only [Prod.mk.injEq] at e; rw [e.2] at this; simp [sameB] at this))).symm), HS.out.drewN _⟩
          · have HQ := Lib.hid hq; clear hq
            have hbd : ct.length ≤ 9223372036854775807 := by omega
            go_wp2
            go_quiet ((go_at_call 72; exact quiet_still (sameInts_b _ _ _ _ ct ct' _ (HR.out.drewN _) (HR'.out.drewN _) hbd _ HQ.out)))
            go_wp2
            go_roundw
            case rel => exact ⟨k + 1, by omega, by go_num, takes_step (prs_at HX.out) (prs_at HX'.out) (by have := HQ.out; simp [sameB] at this; rw [HE.out, this]) HT.out, HS.out.drewN _⟩
            case measure => simp [intOf]; omega
        · have he' : (m != m') = true := by simp [he]
          have HE := Lib.hid he; clear he
          go_wp2
          go_quiet (fail)
          go_wp2
          go_ret
          exact ⟨ret_bool (show false = _ from (decide_eq_false (takes_diff (prs_at HX.out) (prs_at HX'.out) (fun e => HE.out (by simp only [Prod.mk.injEq] at e; exact e.1)))).symm), HS.out.drewN _⟩
      · go_wp2
        go_ret
        exact ⟨ret_bool (show true = _ from (decide_eq_true (takes_all (by rw [prs_len]; exact hlt) HL.out HT.out)).symm), HS.out⟩
  · have HE : Hid (sameP (prs bs) (prs cs) = false) := Lib.hid (decide_eq_false fun e => hl (by have := congrArg List.length e; rwa [prs_len, prs_len] at this))
    have hb : ((bs.length : Int) != (cs.length : Int)) = true := by simp; omega
    clear hl
    go_enter Try.func35, Try.ntmps35
    go_wp2
    go_ret
    exact ⟨ret_bool HE.out.symm, Still.refl _⟩
end Go.Proofs.Ytagmocofmedmjaa
