/- Contracts with named values, for the statements of layer 8. -/
import Derived.Test.YtagmocofmedmjaaAwake8
namespace Go.Proofs.Ytagmocofmedmjaa
open Go.RowKit

theorem rsame8_t (A B : Option Addr) (c d : Nat) (bs cs : List Bal) (w : World) (h : Box w A bs) (h' : Box w B cs) (hn : bs.length ≤ 1000) (he : prs bs = prs cs) :
    Calls Try.prog 35 #[.slice A bs.length c, .slice B cs.length d] w fun e w' => e = .returned (.bool true) ∧ Still w w' :=
  (rsame8_any A B c d bs cs w h h' hn).mono fun e w' h => ⟨by rw [h.1, he]; exact ret_bool (decide_eq_true rfl), h.2⟩
theorem valid8_b (num : Int) (A B : Option Addr) (c d : Nat) (xs : List Int) (bs : List Bal) (w : World) (hx : Row w A (ints xs)) (hb : Box w B bs) (hn : xs.length ≤ 9223372036854775807) (hm : bs.length ≤ 1000) (r : Bool) (hr : boxB num xs (prs bs) = r) :
    Calls Try.prog 36 #[.agg #[.int .i64 num, .slice A xs.length c], .slice B bs.length d] w fun e w' => e = .returned (.bool r) ∧ Ext w w' := by
  subst hr; exact valid8_any num A B c d xs bs w hx hb hn hm
theorem fsame_b (A A' : Option Addr) (c c' : Nat) (xs ys : List Int) (w : World) (h : Row w A (ints xs)) (h' : Row w A' (ints ys)) (hn : xs.length ≤ 9223372036854775807) (r : Bool) (hr : sameB xs ys = r) :
    Calls Try.prog 38 #[.slice A xs.length c, .slice A' ys.length c'] w fun e w' => e = .returned (.bool r) ∧ Ext w w' := by
  subst hr; exact fsame_any A A' c c' xs ys w h h' hn
theorem same8_b (A A' : Option Addr) (c c' : Nat) (xs ys : List Int) (w : World) (h : Row w A (ints xs)) (h' : Row w A' (ints ys)) (hn : xs.length ≤ 9223372036854775807) (r : Bool) (hr : sameB xs ys = r) :
    Calls Try.prog 39 #[.slice A xs.length c, .slice A' ys.length c'] w fun e w' => e = .returned (.bool r) ∧ Still w w' := by
  subst hr; exact same8_any A A' c c' xs ys w h h' hn
theorem small_iff {k : Nat} {ps : Ps} (h : smallX k ps = true) : k ≤ 60 ∧ ps.length ≤ 60 := by
  simp only [smallX, Bool.and_eq_true, decide_eq_true_eq] at h; exact h.2
theorem cast_len (num : Int) (xs : List Int) (ps : Ps) (m : Int) (ct : List Int) : (castF num xs ps m ct).1.length ≤ ps.length + 1 := by
  unfold castF; split
  · simp
  · split
    · simp
    · split
      · simp
      · simp [insP_len]
theorem votes_b (A C : Option Addr) (c d : Nat) (bs : List Bal) (cut : List Int) (w : World) (h : Box w A bs) (hc : Row w C (ints cut)) (hn : bs.length ≤ 1000) (n : Nat) (hr : votesF (prs bs) cut = n) :
    Calls Try.prog 42 #[.slice A bs.length c, .slice C cut.length d] w fun e w' => e = .returned (.int .i64 n) ∧ Ext w w' := by
  subst hr; exact votes_any A C c d bs cut w h hc hn
theorem undecidable_b (num : Int) (A B : Option Addr) (c d : Nat) (xs : List Int) (bs : List Bal) (w : World) (hx : Row w A (ints xs)) (hb : Box w B bs) (hn : xs.length ≤ 9223372036854775807) (hm : bs.length ≤ 1000) (r : Bool) (hr : undF num xs (prs bs) = r) :
    Calls Try.prog 44 #[.agg #[.int .i64 num, .slice A xs.length c], .slice B bs.length d] w fun e w' => e = .returned (.bool r) ∧ Ext w w' := by
  subst hr; exact undecidable_any num A B c d xs bs w hx hb hn hm
theorem rundecidable_b (num : Int) (A B : Option Addr) (c d : Nat) (xs : List Int) (bs : List Bal) (w : World) (hx : Row w A (ints xs)) (hb : Box w B bs) (hn : xs.length ≤ 9223372036854775807) (hm : bs.length ≤ 1000) (r : Bool) (hr : undF num xs (prs bs) = r) :
    Calls Try.prog 45 #[.agg #[.int .i64 num, .slice A xs.length c], .slice B bs.length d] w fun e w' => e = .returned (.bool r) ∧ Ext w w' := by
  subst hr; exact rundecidable_any num A B c d xs bs w hx hb hn hm
end Go.Proofs.Ytagmocofmedmjaa
