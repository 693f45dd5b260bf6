/- Plain laws of layer 8: boxes, ballots, winners. No program in sight. -/
import Derived.Test.YtagmocofmedmjaaVote2
import Derived.Test.YtagmocofmedmjaaPlain4
import Derived.Test.YtagmocofmedmjaaPlainQ
namespace Go.Proofs.Ytagmocofmedmjaa

abbrev Ps := List (Int × List Int)
def mAt (ps : Ps) (k : Nat) : Int := (ps.getD k (0, [])).1
def cAt (ps : Ps) (k : Nat) : List Int := (ps.getD k (0, [])).2
/-- ballot k of a box is in order -/
def okAt (num : Int) (xs : List Int) (ps : Ps) (k : Nat) : Bool := hasB xs (mAt ps k) && ((decide (k = 0) || decide (mAt ps (k - 1) < mAt ps k)) && applF num xs (cAt ps k))
/-- a box is valid -/
def boxB (num : Int) (xs : List Int) (ps : Ps) : Bool := validB num xs && (List.range ps.length).all (okAt num xs ps)
theorem mAt_eq {ps : Ps} {k : Nat} {m : Int} {ct : List Int} (h : ps[k]? = some (m, ct)) : mAt ps k = m ∧ cAt ps k = ct := by simp [mAt, cAt, List.getD, h]
theorem box_inv {num : Int} {xs : List Int} {ps : Ps} (h : validB num xs = false) : boxB num xs ps = false := by simp [boxB, h]
theorem box_no {num : Int} {xs : List Int} {ps : Ps} {k : Nat} (hk : k < ps.length) (h : okAt num xs ps k = false) : boxB num xs ps = false := by
  unfold boxB
  rw [show (List.range ps.length).all (okAt num xs ps) = false from by rw [List.all_eq_false]; exact ⟨k, List.mem_range.2 hk, by simp [h]⟩]; simp
theorem box_yes {num : Int} {xs : List Int} {ps : Ps} (hv : validB num xs = true) (h : ∀ j, j < ps.length → okAt num xs ps j = true) : boxB num xs ps = true := by
  unfold boxB
  rw [hv, show (List.range ps.length).all (okAt num xs ps) = true from by rw [List.all_eq_true]; exact fun j hj => h j (List.mem_range.1 hj)]; rfl
theorem box_inv2 {num : Int} {xs : List Int} {ps : Ps} (h : boxB num xs ps = true) : validB num xs = true ∧ ∀ j, j < ps.length → okAt num xs ps j = true := by
  unfold boxB at h
  simp only [Bool.and_eq_true, List.all_eq_true, List.mem_range] at h
  exact h
theorem ok_has {num : Int} {xs : List Int} {ps : Ps} {k : Nat} {m : Int} {ct : List Int} (h : ps[k]? = some (m, ct)) (h1 : hasB xs m = false) : okAt num xs ps k = false := by
  rw [okAt, (mAt_eq h).1, h1]; rfl
theorem ok_first {num : Int} {xs : List Int} {ps : Ps} {m : Int} {ct : List Int} (h : ps[0]? = some (m, ct)) (h1 : hasB xs m = true) : okAt num xs ps 0 = applF num xs ct := by
  rw [okAt, (mAt_eq h).1, (mAt_eq h).2, h1]; simp
theorem ok_next {num : Int} {xs : List Int} {ps : Ps} {k : Nat} {m m0 : Int} {ct ct0 : List Int} (h : ps[k + 1]? = some (m, ct)) (h0 : ps[k]? = some (m0, ct0)) (h1 : hasB xs m = true) : okAt num xs ps (k + 1) = (decide (m0 < m) && applF num xs ct) := by
  rw [okAt, (mAt_eq h).1, (mAt_eq h).2, h1]; simp [(mAt_eq h0).1]
theorem ok_step {num : Int} {xs : List Int} {ps : Ps} {k : Nat} (h : ∀ j, j < k → okAt num xs ps j = true) (hk : okAt num xs ps k = true) : ∀ j, j < k + 1 → okAt num xs ps j = true := by
  intro j hj
  rcases Nat.lt_or_ge j k with h1 | h1
  · exact h j h1
  · rw [show j = k by omega]; exact hk

/-- the members of the ballots rise -/
def Rise (ps : Ps) : Prop := ps.Pairwise fun p q => p.1 < q.1
theorem mAt_get {ps : Ps} {k : Nat} (h : k < ps.length) : mAt ps k = ps[k].1 ∧ cAt ps k = ps[k].2 := by
  simp [mAt, cAt, List.getD, List.getElem?_eq_getElem h]
theorem rise_of {ps : Ps} (h : ∀ j, 0 < j → j < ps.length → mAt ps (j - 1) < mAt ps j) : Rise ps := by
  have key : ∀ d i, i + d + 1 < ps.length → mAt ps i < mAt ps (i + d + 1) := by
    intro d
    induction d with
    | zero => intro i hi; have := h (i + 1) (by omega) (by omega); simpa using this
    | succ d ih =>
      intro i hi
      have h1 := ih i (by omega)
      have h2 := h (i + d + 1 + 1) (by omega) (by omega)
      simp only [Nat.add_sub_cancel] at h2
      have : i + (d + 1) + 1 = i + d + 1 + 1 := by omega
      rw [this]; omega
  unfold Rise
  rw [List.pairwise_iff_getElem]
  intro i j hi hj hij
  have := key (j - i - 1) i (by omega)
  rw [show i + (j - i - 1) + 1 = j by omega, (mAt_get hi).1, (mAt_get hj).1] at this
  exact this
theorem box_iff {num : Int} {xs : List Int} {ps : Ps} : boxB num xs ps = true ↔ validB num xs = true ∧ Rise ps ∧ ∀ p ∈ ps, p.1 ∈ xs ∧ applF num xs p.2 = true := by
  constructor
  · intro h
    obtain ⟨hv, ha⟩ := box_inv2 h
    refine ⟨hv, rise_of fun j h0 hj => ?_, fun p hp => ?_⟩
    · have := ha j hj
      simp only [okAt, Bool.and_eq_true, Bool.or_eq_true, decide_eq_true_eq] at this
      omega
    · obtain ⟨k, hk, rfl⟩ := List.getElem_of_mem hp
      have := ha k hk
      simp only [okAt, Bool.and_eq_true, (mAt_get hk).1, (mAt_get hk).2] at this
      exact ⟨hasB_iff.1 this.1, this.2.2⟩
  · rintro ⟨hv, hr, ha⟩
    refine box_yes hv fun j hj => ?_
    have h1 := ha _ (List.getElem_mem hj)
    simp only [okAt, Bool.and_eq_true, Bool.or_eq_true, decide_eq_true_eq, (mAt_get hj).1, (mAt_get hj).2]
    refine ⟨hasB_iff.2 h1.1, ?_, h1.2⟩
    rcases Nat.eq_zero_or_pos j with h0 | h0
    · exact .inl h0
    · refine .inr ?_
      rw [(mAt_get (show j - 1 < ps.length by omega)).1]
      exact List.pairwise_iff_getElem.1 hr (j - 1) j (by omega) hj (by omega)
theorem box_len {num : Int} {xs : List Int} {ps : Ps} (h : boxB num xs ps = true) : ps.length ≤ xs.length := by
  obtain ⟨_, hr, ha⟩ := box_iff.1 h
  have hn : (ps.map (·.1)).Nodup := by
    rw [List.nodup_iff_pairwise_ne, List.pairwise_map]
    exact hr.imp fun h e => absurd (e ▸ h) (Int.lt_irrefl _)
  have hs : (ps.map (·.1)) ⊆ xs := by
    intro x hx
    obtain ⟨p, hp, rfl⟩ := List.mem_map.1 hx
    exact (ha p hp).1
  have : (ps.map (·.1)).length ≤ xs.length := hn.length_le_of_subset hs
  simpa using this
theorem applF_ne {num : Int} {xs cut : List Int} (h : applF num xs cut = true) : cut ≠ [] := by
  intro e; subst e
  have : okCut num xs [] = false := by simp [okCut, idsB]
  simp [applF, nextF, this] at h

/-! ### the ballot's place -/
def insP : Ps → Int → List Int → Ps
  | [], m, ct => [(m, ct)]
  | p :: ps, m, ct => if m < p.1 then (m, ct) :: p :: ps else p :: insP ps m ct
def putB (ps : Ps) (m : Int) : Bool := ps.any fun p => decide (m < p.1)
def insK (ps : Ps) (m : Int) (ct : List Int) : Ps := if putB ps m then insP ps m ct else ps
theorem insP_no {ps : Ps} {m : Int} {ct : List Int} (h : putB ps m = false) : insP ps m ct = ps ++ [(m, ct)] := by
  induction ps with
  | nil => rfl
  | cons p ps ih =>
    simp only [putB, List.any_cons, Bool.or_eq_false_iff, decide_eq_false_iff_not] at h
    rw [insP, if_neg h.1, ih h.2]; rfl
theorem insP_low {l : Ps} (r : Ps) {m : Int} {ct : List Int} (h : putB l m = false) : insP (l ++ r) m ct = l ++ insP r m ct := by
  induction l with
  | nil => rfl
  | cons p ps ih =>
    simp only [putB, List.any_cons, Bool.or_eq_false_iff, decide_eq_false_iff_not] at h
    rw [List.cons_append, insP, if_neg h.1, ih h.2]; rfl
theorem insP_on {l : Ps} (r : Ps) {m : Int} {ct : List Int} (h : putB l m = true) : insP (l ++ r) m ct = insP l m ct ++ r := by
  induction l with
  | nil => simp [putB] at h
  | cons p ps ih =>
    rw [List.cons_append, insP, insP]
    split
    · rfl
    · next hp =>
      simp only [putB, List.any_cons, decide_eq_false hp, Bool.false_or] at h
      rw [ih h]; rfl
theorem putB_snoc (l : Ps) (p : Int × List Int) (m : Int) : putB (l ++ [p]) m = (putB l m || decide (m < p.1)) := by simp [putB]
theorem insK_hi {ps : Ps} {k : Nat} {p : Int × List Int} {m : Int} {ct : List Int} (h : ps[k]? = some p) (h1 : putB (ps.take k) m = false) (h2 : m < p.1) :
    insK (ps.take (k + 1)) m ct = insK (ps.take k) m ct ++ [(m, ct)] ++ [p] ∧ putB (ps.take (k + 1)) m = true := by
  have hb : putB (ps.take (k + 1)) m = true := by rw [take_snoc h, putB_snoc, decide_eq_true h2, Bool.or_true]
  refine ⟨?_, hb⟩
  rw [insK, hb, insK, h1, take_snoc h, if_pos rfl, insP_low _ h1, insP, if_pos h2]; simp
theorem insK_lo {ps : Ps} {k : Nat} {p : Int × List Int} {m : Int} {ct : List Int} (h : ps[k]? = some p) (h1 : putB (ps.take k) m = false) (h2 : ¬ m < p.1) :
    insK (ps.take (k + 1)) m ct = insK (ps.take k) m ct ++ [p] ∧ putB (ps.take (k + 1)) m = false := by
  have hb : putB (ps.take (k + 1)) m = false := by rw [take_snoc h, putB_snoc, h1, decide_eq_false h2]; rfl
  refine ⟨?_, hb⟩
  rw [insK, hb, insK, h1, take_snoc h]; simp
theorem insK_on {ps : Ps} {k : Nat} {p : Int × List Int} {m : Int} {ct : List Int} (h : ps[k]? = some p) (h1 : putB (ps.take k) m = true) :
    insK (ps.take (k + 1)) m ct = insK (ps.take k) m ct ++ [p] ∧ putB (ps.take (k + 1)) m = true := by
  have hb : putB (ps.take (k + 1)) m = true := by rw [take_snoc h, putB_snoc, h1]; rfl
  refine ⟨?_, hb⟩
  rw [insK, hb, insK, h1, take_snoc h, if_pos rfl, if_pos rfl, insP_on _ h1]
theorem insP_len (ps : Ps) (m : Int) (ct : List Int) : (insP ps m ct).length = ps.length + 1 := by
  induction ps with
  | nil => simp [insP]
  | cons p ps ih => rw [insP]; split <;> simp <;> omega
theorem insK_len (ps : Ps) (m : Int) (ct : List Int) : (insK ps m ct).length ≤ ps.length + 1 := by
  unfold insK
  split
  · rw [insP_len]; omega
  · omega
theorem insK_yes {ps : Ps} {k : Nat} {m : Int} {ct : List Int} (h : ¬ k < ps.length) (h1 : putB (ps.take k) m = true) : insK (ps.take k) m ct = insP ps m ct := by
  rw [insK, h1, if_pos rfl, List.take_of_length_le (by omega)]
theorem insK_end {ps : Ps} {k : Nat} {m : Int} {ct : List Int} (h : ¬ k < ps.length) (h1 : putB (ps.take k) m = false) : insK (ps.take k) m ct ++ [(m, ct)] = insP ps m ct := by
  have e : ps.take k = ps := List.take_of_length_le (by omega)
  rw [e] at h1 ⊢
  rw [insK, h1, insP_no h1]; rfl
theorem mem_insP {ps : Ps} {m : Int} {ct : List Int} {q : Int × List Int} : q ∈ insP ps m ct ↔ q = (m, ct) ∨ q ∈ ps := by
  induction ps with
  | nil => simp [insP]
  | cons p ps ih =>
    rw [insP]
    split
    · simp
    · simp only [List.mem_cons, ih]
      constructor
      · rintro (h | h | h) <;> simp [h]
      · rintro (h | h | h) <;> simp [h]
theorem rise_insP {ps : Ps} {m : Int} {ct : List Int} (h : Rise ps) (hv : votedB ps m = false) : Rise (insP ps m ct) := by
  induction ps with
  | nil => exact List.pairwise_singleton _ _
  | cons p ps ih =>
    have h' := List.pairwise_cons.1 h
    simp only [votedB, List.any_cons, Bool.or_eq_false_iff, beq_eq_false_iff_ne] at hv
    rw [insP]
    split
    · next hlt =>
      refine List.pairwise_cons.2 ⟨fun q hq => ?_, h⟩
      rcases List.mem_cons.1 hq with rfl | hq
      · exact hlt
      · exact Int.lt_trans hlt (h'.1 q hq)
    · next hlt =>
      refine List.pairwise_cons.2 ⟨fun q hq => ?_, ih h'.2 hv.2⟩
      rcases mem_insP.1 hq with rfl | hq
      · have := hv.1; show p.1 < m; omega
      · exact h'.1 q hq
theorem votes_insP (ps : Ps) (m : Int) (ct cut : List Int) : votesF (insP ps m ct) cut = votesF ps cut + if sameB ct cut then 1 else 0 := by
  induction ps with
  | nil => simp [insP, votesF, List.countP_cons]
  | cons p ps ih =>
    rw [insP]
    split
    · simp [votesF, List.countP_cons]
    · simp only [votesF, List.countP_cons] at *; omega
/-- Cast: the box that follows, and the error -/
def castF (num : Int) (xs : List Int) (ps : Ps) (m : Int) (ct : List Int) : Ps × Int :=
  if boxB num xs ps = false ∨ applF num xs ct = false then ([], 1)
  else if hasB xs m = false then ([], 6)
  else if votedB ps m = true then ([], 7)
  else (insP ps m ct, 0)
theorem box_insP {num : Int} {xs : List Int} {ps : Ps} {m : Int} {ct : List Int} (h : boxB num xs ps = true) (ha : applF num xs ct = true) (hm : hasB xs m = true) (hv : votedB ps m = false) : boxB num xs (insP ps m ct) = true := by
  obtain ⟨h1, h2, h3⟩ := box_iff.1 h
  refine box_iff.2 ⟨h1, rise_insP h2 hv, fun p hp => ?_⟩
  rcases mem_insP.1 hp with rfl | hp
  · exact ⟨hasB_iff.1 hm, ha⟩
  · exact h3 p hp
end Go.Proofs.Ytagmocofmedmjaa
