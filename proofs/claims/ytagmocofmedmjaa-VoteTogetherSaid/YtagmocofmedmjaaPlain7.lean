/- Plain laws of layer 8: the rounds of VoteOnce. No program in sight. -/
import Derived.Test.YtagmocofmedmjaaPlain6
namespace Go.Proofs.Ytagmocofmedmjaa

/-- the state of VoteOnce's loop -/
def OnceSt (num : Int) (xs : List Int) (ps : Ps) (wn : List Int) (dd : Bool) : Prop := boxB num xs ps = true ∧ dd = undF num xs ps ∧ wn = (winF num xs ps).getD []
theorem once_zero {num : Int} {xs : List Int} (h : validB num xs = true) : OnceSt num xs [] [] false := ⟨box_nil h, und_nil.symm, by rw [win_nil]; rfl⟩
theorem once_cast {num : Int} {xs : List Int} {ps : Ps} {wn : List Int} {dd : Bool} {m : Int} {ct : List Int} (h : OnceSt num xs ps wn dd) (hm : m ∈ xs) (ha : applF num xs ct = true) :
    castF num xs ps m ct = ([], 7) ∨ (castF num xs ps m ct = (insP ps m ct, 0) ∧ boxB num xs (insP ps m ct) = true) := by
  unfold castF
  rw [if_neg (by rw [h.1, ha]; simp), if_neg (by rw [hasB_iff.2 hm]; simp)]
  cases hv : votedB ps m
  · exact .inr ⟨if_neg (by simp), box_insP h.1 ha (hasB_iff.2 hm) hv⟩
  · exact .inl (if_pos rfl)
/-- no winner so far and none now -/
theorem once_none {num : Int} {xs : List Int} {ps : Ps} {wn : List Int} {dd : Bool} {m : Int} {ct : List Int} (h : OnceSt num xs ps wn dd) (hb : boxB num xs (insP ps m ct) = true) (hw : winF num xs (insP ps m ct) = none) :
    wn = [] ∧ OnceSt num xs (insP ps m ct) [] (dd || undF num xs (insP ps m ct)) := by
  have h0 : winF num xs ps = none := by
    cases h1 : winF num xs ps with
    | none => rfl
    | some c => rw [win_stays hb h1] at hw; cases hw
  refine ⟨by rw [h.2.2, h0]; rfl, hb, ?_, by rw [hw]; rfl⟩
  rw [h.2.1]
  cases hu : undF num xs ps
  · rfl
  · rw [und_stays hb hu]; rfl
/-- a winner -/
theorem once_some {num : Int} {xs : List Int} {ps : Ps} {wn : List Int} {dd : Bool} {m : Int} {ct c : List Int} (h : OnceSt num xs ps wn dd) (hb : boxB num xs (insP ps m ct) = true) (hw : winF num xs (insP ps m ct) = some c) :
    dd = false ∧ (wn = [] ∨ wn = c) ∧ c ≠ [] ∧ undF num xs (insP ps m ct) = false ∧ OnceSt num xs (insP ps m ct) c false := by
  have hu := win_und hw
  have hd : dd = false := by
    rw [h.2.1]
    cases hu' : undF num xs ps
    · rfl
    · rw [und_stays hb hu'] at hu; cases hu
  refine ⟨hd, ?_, win_ne hw, hu, hb, hu.symm, by rw [hw]; rfl⟩
  cases h1 : winF num xs ps with
  | none => left; rw [h.2.2, h1]; rfl
  | some c' =>
    right
    rw [h.2.2, h1]
    have := win_stays (m := m) (ct := ct) hb h1
    rw [hw] at this; simp at this; simp [this]
theorem box_16 {num : Int} {xs : List Int} {ps : Ps} (h : boxB num xs ps = true) : ps.length ≤ 16 := Nat.le_trans (box_len h) (validB_len (box_iff.1 h).1).2

/-! ### all together -/
/-- the first i votes: each for the cut x, of the members from place s on -/
def TogSt (num : Int) (xs : List Int) (x : List Int) (s i : Nat) (ps : Ps) : Prop :=
  boxB num xs ps = true ∧ ps.length = i ∧ (∀ p ∈ ps, p.2 = x) ∧ ∀ p ∈ ps, ∃ j, j < i ∧ xs[(j + s) % xs.length]? = some p.1
theorem tog_zero {num : Int} {xs x : List Int} {s : Nat} (h : validB num xs = true) : TogSt num xs x s 0 [] := ⟨box_nil h, rfl, by simp, by simp⟩
theorem mod_ne {n s i j : Nat} (hij : j < i) (hi : i < n) : (i + s) % n ≠ (j + s) % n := by
  intro h
  have := Nat.sub_mod_eq_zero_of_mod_eq h
  rw [show i + s - (j + s) = i - j by omega, Nat.mod_eq_of_lt (by omega)] at this
  omega
theorem valid_inj {num : Int} {xs : List Int} (h : validB num xs = true) {a b : Nat} {m : Int} (ha : xs[a]? = some m) (hb : xs[b]? = some m) : a = b := by
  have hs := idsB_sorted (validB_ids h)
  obtain ⟨ha1, ha2⟩ := List.getElem?_eq_some_iff.1 ha
  obtain ⟨hb1, hb2⟩ := List.getElem?_eq_some_iff.1 hb
  rcases Nat.lt_trichotomy a b with h1 | h1 | h1
  · have := List.pairwise_iff_getElem.1 hs a b ha1 hb1 h1; rw [ha2, hb2] at this; omega
  · exact h1
  · have := List.pairwise_iff_getElem.1 hs b a hb1 ha1 h1; rw [ha2, hb2] at this; omega
theorem votes_all_same {ps : Ps} {x : List Int} (h : ∀ p ∈ ps, p.2 = x) : votesF ps x = ps.length := by
  rw [votesF, List.countP_eq_length]
  intro p hp
  simp [sameB, h p hp]
theorem tog_step {num : Int} {xs x : List Int} {s i : Nat} {ps : Ps} {m : Int} (h : TogSt num xs x s i ps) (hx : applF num xs x = true) (hi : i < xs.length) (hm : xs[(i + s) % xs.length]? = some m) :
    castF num xs ps m x = (insP ps m x, 0) ∧ TogSt num xs x s (i + 1) (insP ps m x) := by
  obtain ⟨h1, h2, h3, h4⟩ := h
  have hmem : hasB xs m = true := hasB_iff.2 (List.mem_of_getElem? hm)
  have hv : votedB ps m = false := by
    rw [votedB, List.any_eq_false]
    intro p hp he
    obtain ⟨j, hj, hj2⟩ := h4 p hp
    have he' : p.1 = m := by simpa using he
    rw [he'] at hj2
    exact mod_ne hj hi (valid_inj (box_iff.1 h1).1 hm hj2)
  refine ⟨?_, box_insP h1 hx hmem hv, by rw [insP_len, h2], fun p hp => ?_, fun p hp => ?_⟩
  · unfold castF
    rw [if_neg (by rw [h1, hx]; simp), if_neg (by rw [hmem]; simp), if_neg (by rw [hv]; simp)]
  · rcases mem_insP.1 hp with rfl | hp
    · rfl
    · exact h3 p hp
  · rcases mem_insP.1 hp with rfl | hp
    · exact ⟨i, by omega, hm⟩
    · obtain ⟨j, hj, hj2⟩ := h4 p hp; exact ⟨j, by omega, hj2⟩
theorem tog_win {num : Int} {xs x : List Int} {s i : Nat} {ps : Ps} (h : TogSt num xs x s i ps) (h0 : 0 < i) : winF num xs ps = if fqZ xs.length ≤ (i : Int) then some x else none := by
  obtain ⟨h1, h2, h3, h4⟩ := h
  have hv := votes_all_same h3
  split
  · next hq =>
    refine win_yes h1 ?_ (by rw [hv, h2]; exact hq)
    match ps, h2 with
    | [], h2 => simp at h2; omega
    | p :: _, _ => exact ⟨p, by simp, h3 p (by simp)⟩
  · next hq =>
    refine win_no fun p hp => ?_
    rw [h3 p hp, hv, h2]; omega
theorem tog_und {num : Int} {xs x : List Int} {s i : Nat} {ps : Ps} (h : TogSt num xs x s i ps) (h0 : 0 < i) : undF num xs ps = false := by
  obtain ⟨h1, h2, h3, h4⟩ := h
  rw [und_yes h1, decide_eq_false_iff_not]
  have hv := votes_all_same h3
  have hq := fq_of (box_iff.1 h1).1
  match ps, h2 with
  | [], h2 => simp at h2; omega
  | p :: l, h2 =>
    have := maxV_ge (ps := p :: l) (l := p :: l) (p := p) (by simp)
    rw [h3 p (by simp), hv] at this
    omega
theorem fq_mid {n : Nat} (h1 : 1 ≤ n) (h2 : n ≤ 16) : fqZ n = (n : Int) - ((n : Int) - 1) / 4 := by unfold fqZ; rw [if_pos (by omega)]
end Go.Proofs.Ytagmocofmedmjaa
