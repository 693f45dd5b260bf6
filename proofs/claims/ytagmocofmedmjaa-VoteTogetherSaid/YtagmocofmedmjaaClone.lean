/- Contracts of slices.Clone at ints and at ballots. -/
import Derived.Test.YtagmocofmedmjaaOwnB
import Derived.Lib.LazyBuf
namespace Go.Proofs.Ytagmocofmedmjaa
open Go.RowKit

theorem eql_ints (w : World) (a : Option Addr) (l c : Nat) : (binOp .eql 22 (.slice a l c) (.slice none 0 0)).run Try.prog w = .ok (.bool a.isNone) w := run_eql_slice_nil w _ 3 a l c Try.underlying22
theorem eql_bals (w : World) (a : Option Addr) (l c : Nat) : (binOp .eql 42 (.slice a l c) (.slice none 0 0)).run Try.prog w = .ok (.bool a.isNone) w := run_eql_slice_nil w _ 44 a l c Try.underlying42
attribute [local go_sem] eql_ints eql_bals Option.isNone_none Option.isNone_some
theorem ownB_empty (w : World) : OwnB (w.alloc (.cells #[] 44)) w.heap.size (.slice (some ⟨w.heap.size, 0, none⟩) 0 0) [] :=
  ⟨rfl, .inr ⟨w.heap.size, 0, #[], rfl, Nat.le_refl _, (by show (w.heap.push _)[w.heap.size]? = _; simp), Nat.le_refl _, Nat.zero_le _, rfl, rfl⟩⟩
theorem own_empty (w : World) : Own (w.alloc (.cells #[] 3)) w.heap.size 3 (.slice (some ⟨w.heap.size, 0, none⟩) 0 0) [] :=
  ⟨rfl, .inr ⟨w.heap.size, 0, #[], rfl, Nat.le_refl _, (by show (w.heap.push _)[w.heap.size]? = _; simp), Nat.le_refl _, Nat.zero_le _, rfl, rfl⟩⟩
theorem Row.none_nil {w : World} {xs : List Value} (h : Row w none xs) : xs = [] := by
  rcases xs with _ | ⟨u, l⟩
  · rfl
  · obtain ⟨b, off, hh, _⟩ := h (by simp)
    cases hh

set_option maxRecDepth 100000 in
theorem clone_any (A : Option Addr) (c : Nat) (xs : List Int) (w : World) (h : Row w A (ints xs)) (hn : xs.length ≤ 1000000) :
    Calls Try.prog 69 #[.slice A xs.length c] w (GivesI w xs) := by
  rcases A with _ | ad
  · have hx : xs = [] := by have := h.none_nil; simpa [ints] using this
    subst hx
    go_enter Try.func69, Try.ntmps69
    go_wp2
    go_ret
    exact gives_nil w
  · have H := Lib.hid h; clear h
    go_enter Try.func69, Try.ntmps69
    go_wp2_with (first
      | (at_builtin; refine push_row rfl (.tmp 5) (.tmp 6) _ 3 _ 8 rfl Try.underlying22 info_int rfl (by decide) _ w.heap.size _ [] (by rfl) _ _ _ (ints xs) (by rfl) (by simp [ints]) (H.out.ext (Ext.new _ _)) (ints_one _) (own_empty w) (by simp; omega) (by simp) ?_; intro v1 w1 ho1 hg1 hs1))
    go_ret
    exact gives_own ho1 (hg1.below (Ext.new _ _) (by simp) (fun k hk => by simp [Value.ownBlock] at hk; omega))

/-- a slice of ballots in new memory is returned; the cuts are those of bs -/
def GivesC (w : World) (bs : List Bal) (en : Ending) (w' : World) : Prop :=
  ∃ A c, en = .returned (.slice A bs.length c) ∧ bs.length ≤ c ∧ c ≤ maxLen ∧ OwnB w' w.heap.size (.slice A bs.length c) bs ∧ Ext w w'
theorem gives_c {w w' : World} {v : Value} {bs : List Bal} (h : OwnB w' w.heap.size v bs) (e : Ext w w') : GivesC w bs (.returned v) w' := by
  obtain ⟨A, c, hv, h1, h2, _⟩ := h.slice
  subst hv
  exact ⟨A, c, rfl, h1, h2, h, e⟩
set_option maxRecDepth 100000 in
theorem cloneB_any (A : Option Addr) (c : Nat) (bs : List Bal) (w : World) (h : Row w A (balV bs)) (hn : bs.length ≤ 1000000) :
    Calls Try.prog 68 #[.slice A bs.length c] w (GivesC w bs) := by
  rcases A with _ | ad
  · have hx : bs = [] := by have := h.none_nil; have := congrArg List.length this; rw [balV_len] at this; exact List.eq_nil_of_length_eq_zero (by simp at this; omega)
    subst hx
    go_enter Try.func68, Try.ntmps68
    go_wp2
    go_ret
    exact gives_c (OwnB.nil _ _) (Ext.refl _)
  · have H := Lib.hid h; clear h
    go_enter Try.func68, Try.ntmps68
    go_wp2_with (first
      | (at_builtin; refine push_bal rfl (.tmp 5) (.tmp 6) rfl _ w.heap.size _ [] (by rfl) _ _ _ bs (by rfl) rfl (H.out.ext (Ext.new _ _)) (ownB_empty w) (by simp; omega) (by simp) ?_; intro v1 w1 ho1 hg1 hs1))
    go_ret
    exact gives_c ho1 (hg1.below (Ext.new _ _) (by simp) (fun k hk => by simp [Value.ownBlock] at hk; omega))
end Go.Proofs.Ytagmocofmedmjaa
