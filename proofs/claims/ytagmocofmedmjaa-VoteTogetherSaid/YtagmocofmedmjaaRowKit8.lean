/- From the readings of ballots to what the walks ask of them. -/
import Derived.Test.YtagmocofmedmjaaRowKit
import Derived.Test.YtagmocofmedmjaaBal
import Derived.Deep.SlicePairs
namespace Go.Proofs.Ytagmocofmedmjaa
open Go.ChangeShapes Go.WideShapes Go.ChangeAt Go.RowKit

theorem bal_cells : ∀ (bs : List Bal) (j : Nat) (u : Value), (balV bs)[j]? = some u → ∃ k b, bs[k]? = some b ∧ ((j = k * 2 ∧ u = .int .i64 b.m) ∨ (j = k * 2 + 1 ∧ u = .slice b.A b.cut.length b.c)) := by
  intro bs
  induction bs with
  | nil => intro j u h; simp [balV] at h
  | cons x bs ih =>
    intro j u h
    match j, h with
    | 0, h => simp [balV] at h; exact ⟨0, x, rfl, .inl ⟨rfl, h.symm⟩⟩
    | 1, h => simp [balV] at h; exact ⟨0, x, rfl, .inr ⟨rfl, h.symm⟩⟩
    | j + 2, h =>
      obtain ⟨k, b, h1, h2⟩ := ih j u (by simpa [balV] using h)
      refine ⟨k + 1, b, by simpa using h1, ?_⟩
      rcases h2 with ⟨h2, h3⟩ | ⟨h2, h3⟩
      · exact .inl ⟨by omega, h3⟩
      · exact .inr ⟨by omega, h3⟩

section
variable {H : Type} {enc : TypeId × Value → H} {w : World} {base : Nat} {spare : Nat → Bool} {held : Bool}
theorem open_ballotsR {fuel : Nat} {cs : List Value} {x : DataW H × List MemPlace} (h : DataW.trod enc Try.prog w base spare held fuel 42 cs = some x) :
    ∃ A c, ∃ bs : List Bal, cs = [.slice A bs.length c] ∧ bs.length ≤ c ∧ c ≤ maxLen ∧ Box w A bs := by
  rcases Go.Deep.open_slice_pairs Try.underlying42 Try.underlying44 (by kernel_rfl) rfl rfl (by kernel_rfl) (by kernel_rfl) h with ⟨hcs, _⟩ | ⟨a, len, cap, m, n, V0, V1, D0, D1, P0, P1, hcs, _, hl, hm, hmm, _, hx⟩
  · exact ⟨none, 0, [], hcs, Nat.le_refl _, Nat.zero_le _, Box.nil _ _⟩
  · have hlm : len ≤ m := by rw [hmm]; split <;> omega
    haveI : Inhabited Bal := ⟨⟨0, none, 0, []⟩⟩
    obtain ⟨f, hf⟩ := Go.Deep.choose_lt (α := Bal) (n := len) (p := fun i b => w.cell? (a.add (i * 2)) = some (.int .i64 b.m) ∧ w.cell? (a.add (i * 2 + 1)) = some (.slice b.A b.cut.length b.c) ∧ Row w b.A (ints b.cut) ∧ b.cut.length ≤ b.c ∧ b.c ≤ maxLen) (fun i hi => by
      obtain ⟨h1, h2, h3, h4⟩ := hx i (by omega)
      obtain ⟨z, hz, _⟩ := open_i64R h3
      obtain ⟨A, c, xs, hs, hc1, hc2, hr, _⟩ := open_intsR h4
      simp only [List.cons.injEq, and_true] at hz hs
      rw [hz] at h1; rw [hs] at h2
      exact ⟨⟨z, A, c, xs⟩, h1, h2, hr, hc1, hc2⟩)
    have hlen : ((List.range len).map f).length = len := by simp
    refine ⟨some a, cap, (List.range len).map f, by rw [hcs, hlen], by rw [hlen]; exact hl, hm, ?_, fun b hb => ?_⟩
    · intro hne
      have hp : 0 < len := by
        rcases Nat.eq_zero_or_pos len with h0 | h0
        · subst h0; simp [balV] at hne
        · exact h0
      obtain ⟨b, off, spot⟩ := a
      have hspot : spot = none := by simpa [Addr.add] using World.cell?_spot (hf 0 hp).1
      subst hspot
      have hc : ∀ i, i < len → w.cell? ⟨b, off + i * 2, none⟩ = some (.int .i64 (f i).m) ∧ w.cell? ⟨b, off + (i * 2 + 1), none⟩ = some (.slice (f i).A (f i).cut.length (f i).c) := fun i hi => by
        have := hf i hi
        rw [Go.WideShapes.add_plain, Go.WideShapes.add_plain] at this
        exact ⟨this.1, this.2.1⟩
      refine ⟨b, off, rfl, World.block_lt_of_cell? w _ (hc 0 hp).1, fun j u hj => ?_⟩
      obtain ⟨k, q, hk, hq⟩ := bal_cells _ j u hj
      have hkl : k < len := by have := (List.getElem?_eq_some_iff.1 hk).1; simpa using this
      have hfk : f k = q := by
        rw [List.getElem?_map, List.getElem?_range hkl] at hk; simpa using hk
      rcases hq with ⟨rfl, rfl⟩ | ⟨rfl, rfl⟩
      · rw [← hfk]; exact (hc k hkl).1
      · rw [← hfk]; exact (hc k hkl).2
    · obtain ⟨i, hi, rfl⟩ := List.mem_map.1 hb
      exact (hf i (List.mem_range.1 hi)).2.2
theorem argBallots {r : Reach} {b0 : Nat} {v : Value} {d : DataW H} {p : List MemPlace} (hv : Value.okWide Try.prog w r b0 42 v) (h : DataW.Trod enc Try.prog w base spare held 42 v d p) :
    ∃ A c, ∃ bs : List Bal, v = .slice A bs.length c ∧ bs.length ≤ c ∧ c ≤ maxLen ∧ Box w A bs := by
  obtain ⟨a, len, cap, rfl⟩ := okWide_slice Try.underlying42 hv
  obtain ⟨fuel, hf⟩ := h
  obtain ⟨A, c, xs, hcs, hr⟩ := open_ballotsR hf
  simp [Value.cells] at hcs
  obtain ⟨rfl, rfl, rfl⟩ := hcs
  exact ⟨_, _, xs, rfl, hr⟩
theorem argBallot {r : Reach} {b0 : Nat} {v : Value} {d : DataW H} {p : List MemPlace} (hv : Value.okWide Try.prog w r b0 44 v) (h : DataW.Trod enc Try.prog w base spare held 44 v d p) :
    ∃ n A c, ∃ xs : List Int, v = .agg #[.int .i64 n, .slice A xs.length c] ∧ I64 n ∧ xs.length ≤ c ∧ c ≤ maxLen ∧ Row w A (ints xs) ∧ ∀ x ∈ xs, I64 x := by
  obtain ⟨v0, v1, y0, y1, m, rfl, _, _, h0, h1⟩ := Joins.open_agg2 Try.underlying44 (by kernel_rfl) (by kernel_rfl) hv h
  obtain ⟨n, hn, hi⟩ := open_i64R h0
  obtain ⟨A, c, xs, hcs, hr⟩ := open_intsR h1
  simp at hn hcs
  subst hn hcs
  exact ⟨n, A, c, xs, rfl, hi, hr⟩
end
end Go.Proofs.Ytagmocofmedmjaa
