/- Plain laws of layer 8: winners. No program in sight. -/
import Derived.Test.YtagmocofmedmjaaPlain5
namespace Go.Proofs.Ytagmocofmedmjaa

/-- the largest number of votes that a cut of l has in ps -/
def maxV (ps l : Ps) : Nat := l.foldl (fun n p => max n (votesF ps p.2)) 0
theorem maxV_step {ps : Ps} {k : Nat} {p : Int × List Int} (h : ps[k]? = some p) : maxV ps (ps.take (k + 1)) = max (maxV ps (ps.take k)) (votesF ps p.2) := by
  unfold maxV; rw [take_snoc h, List.foldl_append]; rfl
theorem maxV_all {ps : Ps} {k : Nat} (h : ¬ k < ps.length) : maxV ps (ps.take k) = maxV ps ps := by rw [List.take_of_length_le (by omega)]
theorem foldmax_ge (ps : Ps) (l : Ps) : ∀ n : Nat, n ≤ l.foldl (fun n p => max n (votesF ps p.2)) n ∧ ∀ p ∈ l, votesF ps p.2 ≤ l.foldl (fun n p => max n (votesF ps p.2)) n := by
  induction l with
  | nil => intro n; simp
  | cons q l ih =>
    intro n
    have := ih (max n (votesF ps q.2))
    refine ⟨Nat.le_trans (Nat.le_max_left _ _) this.1, fun p hp => ?_⟩
    rcases List.mem_cons.1 hp with rfl | hp
    · exact Nat.le_trans (Nat.le_max_right _ _) this.1
    · exact this.2 p hp
theorem maxV_ge {ps l : Ps} {p : Int × List Int} (h : p ∈ l) : votesF ps p.2 ≤ maxV ps l := (foldmax_ge ps l 0).2 p h
theorem foldmax_in (ps : Ps) (l : Ps) : ∀ n : Nat, l.foldl (fun n p => max n (votesF ps p.2)) n = n ∨ ∃ p ∈ l, votesF ps p.2 = l.foldl (fun n p => max n (votesF ps p.2)) n := by
  induction l with
  | nil => intro n; exact .inl rfl
  | cons q l ih =>
    intro n
    rcases ih (max n (votesF ps q.2)) with h | ⟨p, hp, h⟩
    · rw [List.foldl_cons, h]
      rcases Nat.le_total n (votesF ps q.2) with hl | hl
      · exact .inr ⟨q, by simp, (Nat.max_eq_right hl).symm⟩
      · exact .inl (Nat.max_eq_left hl)
    · exact .inr ⟨p, by simp [hp], h⟩
theorem maxV_in (ps l : Ps) : maxV ps l = 0 ∨ ∃ p ∈ l, votesF ps p.2 = maxV ps l := foldmax_in ps l 0
theorem maxV_le (ps l : Ps) : maxV ps l ≤ ps.length := by
  rcases maxV_in ps l with h | ⟨p, _, h⟩
  · omega
  · rw [← h]; exact votes_le _ _

/-- a cut with n votes that leads -/
def Lead (ps : Ps) (cut : List Int) (n : Nat) : Prop := (n = 0 ∧ cut = []) ∨ ∃ p ∈ ps, p.2 = cut ∧ votesF ps cut = n
theorem lead_zero (ps : Ps) : Lead ps [] 0 := .inl ⟨rfl, rfl⟩
theorem lead_at {ps : Ps} {k : Nat} {m : Int} {ct : List Int} (h : ps[k]? = some (m, ct)) : Lead ps ct (votesF ps ct) := .inr ⟨_, List.mem_of_getElem? h, rfl, rfl⟩
theorem lead_len {ps : Ps} {cut : List Int} {n m : Nat} (h : Lead ps cut n) (hc : ∀ p ∈ ps, p.2.length ≤ m) : cut.length ≤ m := by
  rcases h with ⟨_, rfl⟩ | ⟨p, hp, rfl, _⟩
  · simp
  · exact hc p hp

/-- the cut that has won -/
def winF (num : Int) (xs : List Int) (ps : Ps) : Option (List Int) :=
  if boxB num xs ps then (ps.find? fun p => decide (fqZ xs.length ≤ (votesF ps p.2 : Int))).map (·.2) else none
/-- no cut can win any more -/
def undF (num : Int) (xs : List Int) (ps : Ps) : Bool := boxB num xs ps && decide ((maxV ps ps : Int) + xs.length - ps.length < fqZ xs.length)
theorem votes_two {c c' : List Int} (h : c ≠ c') (ps : Ps) : votesF ps c + votesF ps c' ≤ ps.length := by
  induction ps with
  | nil => simp [votesF]
  | cons p ps ih =>
    simp only [votesF, List.countP_cons, List.length_cons] at *
    by_cases h1 : sameB p.2 c = true
    · by_cases h2 : sameB p.2 c' = true
      · simp only [sameB, decide_eq_true_eq] at h1 h2
        exact absurd (h1.symm.trans h2) h
      · rw [if_neg h2]; split <;> omega
    · rw [if_neg h1]; split <;> omega
theorem fq_of {num : Int} {xs : List Int} (h : validB num xs = true) : 1 ≤ fqZ xs.length ∧ fqZ xs.length ≤ xs.length ∧ (xs.length : Int) < 2 * fqZ xs.length := by
  have hl := validB_len h
  have := maj_fq (k := (xs.length : Int)) (by omega) (by omega)
  unfold fqZ majZ at *
  split at * <;> omega
theorem win_one {num : Int} {xs : List Int} {ps : Ps} {c c' : List Int} (h : boxB num xs ps = true) (h1 : fqZ xs.length ≤ (votesF ps c : Int)) (h2 : fqZ xs.length ≤ (votesF ps c' : Int)) : c = c' := by
  by_cases e : c = c'
  · exact e
  · have hv := votes_two e ps
    have hl := box_len h
    have hq := fq_of (box_iff.1 h).1
    omega
theorem win_yes {num : Int} {xs : List Int} {ps : Ps} {c : List Int} (h : boxB num xs ps = true) (hm : ∃ p ∈ ps, p.2 = c) (h1 : fqZ xs.length ≤ (votesF ps c : Int)) : winF num xs ps = some c := by
  rw [winF, if_pos h]
  obtain ⟨p, hp, rfl⟩ := hm
  cases hf : ps.find? fun p => decide (fqZ xs.length ≤ (votesF ps p.2 : Int)) with
  | none =>
    rw [List.find?_eq_none] at hf
    exact absurd h1 (by simpa using hf p hp)
  | some q =>
    have := List.find?_some hf
    simp only [decide_eq_true_eq] at this
    rw [Option.map_some, win_one h this h1]
theorem win_no {num : Int} {xs : List Int} {ps : Ps} (h1 : ∀ p ∈ ps, (votesF ps p.2 : Int) < fqZ xs.length) : winF num xs ps = none := by
  rw [winF]
  split
  · rw [List.find?_eq_none.2 (fun p hp => by have := h1 p hp; simp only [decide_eq_true_eq]; omega)]; rfl
  · rfl
theorem win_inv {num : Int} {xs : List Int} {ps : Ps} (h : boxB num xs ps = false) : winF num xs ps = none := by rw [winF, h]; rfl
theorem lead_no {num : Int} {xs : List Int} {ps : Ps} (h : (maxV ps ps : Int) < fqZ xs.length) : winF num xs ps = none :=
  win_no fun p hp => by have := maxV_ge (ps := ps) hp; omega
theorem lead_yes {num : Int} {xs : List Int} {ps : Ps} {cut : List Int} (hb : boxB num xs ps = true) (hl : Lead ps cut (maxV ps ps)) (h : ¬ (maxV ps ps : Int) < fqZ xs.length) : winF num xs ps = some cut := by
  have hq := fq_of (box_iff.1 hb).1
  rcases hl with ⟨h0, _⟩ | ⟨p, hp, hc, hv⟩
  · omega
  · exact win_yes hb ⟨p, hp, hc⟩ (by omega)
theorem win_some {num : Int} {xs : List Int} {ps : Ps} {c : List Int} (h : winF num xs ps = some c) : boxB num xs ps = true ∧ (∃ p ∈ ps, p.2 = c) ∧ fqZ xs.length ≤ (votesF ps c : Int) := by
  rw [winF] at h
  split at h
  · next hb =>
    obtain ⟨p, hf, rfl⟩ := Option.map_eq_some_iff.1 h
    have := List.find?_some hf
    simp only [decide_eq_true_eq] at this
    exact ⟨hb, ⟨p, List.mem_of_find?_eq_some hf, rfl⟩, this⟩
  · cases h
theorem und_inv {num : Int} {xs : List Int} {ps : Ps} (h : boxB num xs ps = false) : undF num xs ps = false := by rw [undF, h]; rfl
theorem und_yes {num : Int} {xs : List Int} {ps : Ps} (h : boxB num xs ps = true) : undF num xs ps = decide ((maxV ps ps : Int) + xs.length - ps.length < fqZ xs.length) := by rw [undF, h]; rfl
theorem appl_len {num : Int} {xs cut : List Int} (h : applF num xs cut = true) : cut.length ≤ 32 := by
  have : okCut num xs cut = true := by
    cases hk : okCut num xs cut
    · simp [applF, nextF, hk] at h
    · rfl
  exact (idsB_len (m := 32) (okCut_iff.1 this).2).2
theorem box_cuts {num : Int} {xs : List Int} {ps : Ps} (h : boxB num xs ps = true) : ∀ p ∈ ps, p.2.length ≤ 1000000 := fun p hp => by
  have := appl_len ((box_iff.1 h).2.2 p hp).2; omega

/-! ### the laws of the rounds -/
/-- the winner stays -/
theorem win_stays {num : Int} {xs : List Int} {ps : Ps} {m : Int} {ct c : List Int} (hb : boxB num xs (insP ps m ct) = true) (h : winF num xs ps = some c) : winF num xs (insP ps m ct) = some c := by
  obtain ⟨_, ⟨p, hp, rfl⟩, hv⟩ := win_some h
  refine win_yes hb ⟨p, mem_insP.2 (.inr hp), rfl⟩ ?_
  rw [votes_insP]; split <;> omega
/-- what is undecidable stays so -/
theorem und_stays {num : Int} {xs : List Int} {ps : Ps} {m : Int} {ct : List Int} (hb : boxB num xs (insP ps m ct) = true) (h : undF num xs ps = true) : undF num xs (insP ps m ct) = true := by
  rw [und_yes hb, decide_eq_true_eq, insP_len]
  simp only [undF, Bool.and_eq_true, decide_eq_true_eq] at h
  have hm : maxV (insP ps m ct) (insP ps m ct) ≤ maxV ps ps + 1 := by
    rcases maxV_in (insP ps m ct) (insP ps m ct) with h0 | ⟨p, hp, h0⟩
    · omega
    · rw [← h0, votes_insP]
      rcases mem_insP.1 hp with rfl | hp
      · by_cases hin : ∃ q ∈ ps, q.2 = ct
        · obtain ⟨q, hq, rfl⟩ := hin
          have := maxV_ge (ps := ps) hq
          show votesF ps q.2 + _ ≤ _
          split <;> omega
        · have : votesF ps ct = 0 := by
            rw [votesF, List.countP_eq_zero]
            intro q hq hs
            simp only [sameB, decide_eq_true_eq] at hs
            exact hin ⟨q, hq, hs⟩
          simp only at *
          split <;> omega
      · have := maxV_ge (ps := ps) hp
        split <;> omega
  have := h.2
  omega
/-- a winner is never undecidable -/
theorem win_und {num : Int} {xs : List Int} {ps : Ps} {c : List Int} (h : winF num xs ps = some c) : undF num xs ps = false := by
  obtain ⟨hb, ⟨p, hp, rfl⟩, hv⟩ := win_some h
  rw [und_yes hb, decide_eq_false_iff_not]
  have := maxV_ge (ps := ps) hp
  have := box_len hb
  omega
theorem win_ne {num : Int} {xs : List Int} {ps : Ps} {c : List Int} (h : winF num xs ps = some c) : c ≠ [] := by
  obtain ⟨hb, ⟨p, hp, rfl⟩, _⟩ := win_some h
  exact applF_ne ((box_iff.1 hb).2.2 p hp).2
theorem und_nil {num : Int} {xs : List Int} : undF num xs [] = false := by
  cases hb : boxB num xs []
  · exact und_inv hb
  · rw [und_yes hb, decide_eq_false_iff_not]
    have := fq_of (box_iff.1 hb).1
    simp [maxV]; omega
theorem win_nil {num : Int} {xs : List Int} : winF num xs [] = none := win_no (by simp)
theorem box_nil {num : Int} {xs : List Int} (h : validB num xs = true) : boxB num xs [] = true := box_iff.2 ⟨h, List.Pairwise.nil, by simp⟩
end Go.Proofs.Ytagmocofmedmjaa
