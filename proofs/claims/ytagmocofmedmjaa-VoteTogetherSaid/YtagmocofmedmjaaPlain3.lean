/- Plain laws of layer 3: what Next and Diff make of sorted lists. -/
import Derived.Test.YtagmocofmedmjaaPlain2
namespace Go.Proofs.Ytagmocofmedmjaa

theorem find_ge (id : Int) (xs : List Int) : ∀ k, find id xs k = -1 ∨ (k : Int) ≤ find id xs k := by
  induction xs with
  | nil => intro k; exact .inl rfl
  | cons x xs ih =>
    intro k
    unfold find
    split
    · exact .inr (Int.le_refl _)
    · rcases ih (k + 1) with h | h
      · exact .inl h
      · exact .inr (by omega)
theorem find_mem (id : Int) (xs : List Int) : ∀ k, 0 ≤ find id xs k ↔ id ∈ xs := by
  induction xs with
  | nil => intro k; simp [find]
  | cons x xs ih =>
    intro k
    unfold find
    split
    · next h => subst h; simp
    · next h => rw [ih (k + 1)]; simp [Ne.symm h]
theorem hasB_iff {xs : List Int} {id : Int} : hasB xs id = true ↔ id ∈ xs := by
  unfold hasB place; rw [decide_eq_true_eq]; exact find_mem id xs 0
theorem hasB_no {xs : List Int} {id : Int} : hasB xs id = false ↔ id ∉ xs := by
  rw [← hasB_iff]; simp
theorem mem_among_t {l m : List Int} {x : Int} : x ∈ among l m true ↔ x ∈ l ∧ x ∈ m := by
  unfold among; rw [List.mem_filter]; simp [hasB_iff]
theorem mem_among_f {l m : List Int} {x : Int} : x ∈ among l m false ↔ x ∈ l ∧ x ∉ m := by
  unfold among; rw [List.mem_filter]; simp [hasB_no]
theorem among_sorted {l m : List Int} {b : Bool} (h : l.Pairwise (· < ·)) : (among l m b).Pairwise (· < ·) := List.Pairwise.filter _ h
theorem among_parts (l m : List Int) : (among l m true).length + (among l m false).length = l.length := by
  unfold among
  induction l with
  | nil => rfl
  | cons x l ih =>
    cases h : hasB m x <;> simp [h] at ih ⊢ <;> omega
theorem mem_mergeL {a b : List Int} {x : Int} : x ∈ mergeL a b ↔ x ∈ a ∨ x ∈ b := by unfold mergeL; exact List.mem_merge
theorem len_mergeL (a b : List Int) : (mergeL a b).length = a.length + b.length := by unfold mergeL; simp
theorem mergeL_sorted : ∀ (a b : List Int), a.Pairwise (· < ·) → b.Pairwise (· < ·) → (∀ x, x ∈ a → x ∉ b) → (mergeL a b).Pairwise (· < ·) := by
  intro a
  induction a with
  | nil => intro b _ hb _; rw [nil_mergeL]; exact hb
  | cons x a iha =>
    intro b
    induction b with
    | nil => intro ha _ _; rw [mergeL_nil]; exact ha
    | cons y b ihb =>
      intro ha hb hd
      have ha' := List.pairwise_cons.1 ha
      have hb' := List.pairwise_cons.1 hb
      by_cases h : x ≤ y
      · rw [mergeL_le h]
        refine List.pairwise_cons.2 ⟨fun z hz => ?_, iha (y :: b) ha'.2 hb (fun z hz => hd z (by simp [hz]))⟩
        rcases mem_mergeL.1 hz with hz | hz
        · exact ha'.1 z hz
        · have hne : x ≠ y := fun e => hd x (by simp) (by simp [e])
          rcases List.mem_cons.1 hz with rfl | hz
          · omega
          · have := hb'.1 z hz; omega
      · rw [mergeL_gt (by omega)]
        refine List.pairwise_cons.2 ⟨fun z hz => ?_, ihb ha hb'.2 (fun z hz hz' => hd z hz (by simp [hz']))⟩
        rcases mem_mergeL.1 hz with hz | hz
        · rcases List.mem_cons.1 hz with rfl | hz
          · omega
          · have := ha'.1 z hz; omega
        · exact hb'.1 z hz
theorem sorted_ext : ∀ (a b : List Int), a.Pairwise (· < ·) → b.Pairwise (· < ·) → (∀ x, x ∈ a ↔ x ∈ b) → a = b := by
  intro a
  induction a with
  | nil =>
    intro b _ _ h
    cases b with
    | nil => rfl
    | cons y b => have := (h y).2 (by simp); simp at this
  | cons x a ih =>
    intro b ha hb h
    cases b with
    | nil => have := (h x).1 (by simp); simp at this
    | cons y b =>
      have ha' := List.pairwise_cons.1 ha
      have hb' := List.pairwise_cons.1 hb
      have e : x = y := by
        rcases List.mem_cons.1 ((h x).1 (by simp)) with e | h1
        · exact e
        · rcases List.mem_cons.1 ((h y).2 (by simp)) with e | h2
          · exact e.symm
          · have := hb'.1 x h1; have := ha'.1 y h2; omega
      subst e
      rw [ih b ha'.2 hb'.2 (fun z => ?_)]
      constructor
      · intro hz
        rcases List.mem_cons.1 ((h z).1 (by simp [hz])) with e | h1
        · subst e; have := ha'.1 z hz; omega
        · exact h1
      · intro hz
        rcases List.mem_cons.1 ((h z).2 (by simp [hz])) with e | h1
        · subst e; have := hb'.1 z hz; omega
        · exact h1

/-- what Next returns where it succeeds -/
theorem nextF_inv {num : Int} {xs cut : List Int} {n : Int} {ys : List Int} (h : nextF num xs cut = (n, ys, 0)) :
    okCut num xs cut = true ∧ n = num + 1 ∧ num < 1099511627776 ∧ ys = mergeL (among xs cut false) (among cut xs false) ∧ ys.Pairwise (· < ·) ∧ (∀ x, x ∈ ys ↔ (x ∈ xs ∧ x ∉ cut) ∨ (x ∈ cut ∧ x ∉ xs)) ∧
    xs.length < 2 * (among xs cut false).length ∧ (among xs cut false).length + (among cut xs false).length ≤ 16 ∧ validB n ys = true := by
  cases ho : okCut num xs cut
  · rw [show nextF num xs cut = (0, [], 1) from if_pos ho] at h; simp at h
  · by_cases h1 : 2 * (survivors num xs cut).length ≤ xs.length
    · rw [nextF_maj ho h1] at h; simp at h
    · by_cases h2 : num = 1099511627776 ∨ 16 < (survivors num xs cut).length + (joiners num xs cut).length
      · rw [nextF_lim ho h1 h2] at h; simp at h
      · rw [nextF_ok ho h1 h2] at h
        simp only [Prod.mk.injEq, and_true] at h
        obtain ⟨rfl, rfl⟩ := h
        have hs : survivors num xs cut = among xs cut false := if_pos ho
        have hj : joiners num xs cut = among cut xs false := if_pos ho
        rw [hs] at h1
        rw [hs, hj] at h2
        have hv := okCut_iff.1 ho
        have hxs := idsB_sorted (validB_ids hv.1)
        have hcs := idsB_sorted hv.2
        have hnum := validB_num hv.1
        have hsort : (mergeL (among xs cut false) (among cut xs false)).Pairwise (· < ·) :=
          mergeL_sorted _ _ (among_sorted hxs) (among_sorted hcs) (fun x h h' => (mem_among_f.1 h').2 (mem_among_f.1 h).1)
        have hmem : ∀ x, x ∈ mergeL (among xs cut false) (among cut xs false) ↔ (x ∈ xs ∧ x ∉ cut) ∨ (x ∈ cut ∧ x ∉ xs) := fun x => by rw [mem_mergeL, mem_among_f, mem_among_f]
        refine ⟨rfl, rfl, by omega, by rw [hs, hj], by rw [hs, hj]; exact hsort, by rw [hs, hj]; exact hmem, by omega, by omega, ?_⟩
        rw [hs, hj]
        have h3 := len_mergeL (among xs cut false) (among cut xs false)
        rw [validB_mid (by omega) (by omega)]
        refine (idsB_iff (m := 16)).2 ⟨by omega, by omega, hsort, fun x hx => ?_⟩
        rcases (hmem x).1 hx with hx | hx
        · exact ((idsB_iff (m := 16)).1 (validB_ids hv.1)).2.2.2 x hx.1
        · exact ((idsB_iff (m := 32)).1 hv.2).2.2.2 x hx.1
theorem nextF_err {num : Int} {xs cut : List Int} (h : (nextF num xs cut).2.2 ≠ 0) : (nextF num xs cut).1 = 0 ∧ (nextF num xs cut).2.1 = [] := by
  unfold nextF at *
  split
  · exact ⟨rfl, rfl⟩
  · next h1 =>
    rw [if_neg h1] at h
    split
    · exact ⟨rfl, rfl⟩
    · next h2 =>
      rw [if_neg h2] at h
      split
      · exact ⟨rfl, rfl⟩
      · next h3 => rw [if_neg h3] at h; exact absurd rfl h
/-- a cut that is applied twice leads back -/
theorem next_back {num : Int} {xs cut : List Int} {n m : Int} {ys zs : List Int} (h : nextF num xs cut = (n, ys, 0)) (h' : nextF n ys cut = (m, zs, 0)) : m = num + 2 ∧ zs = xs := by
  obtain ⟨ho, rfl, _, _, hs, hm, _⟩ := nextF_inv h
  obtain ⟨_, rfl, _, _, hs', hm', _⟩ := nextF_inv h'
  refine ⟨by omega, sorted_ext _ _ hs' (idsB_sorted (validB_ids (okCut_iff.1 ho).1)) fun x => ?_⟩
  rw [hm', hm]
  by_cases h1 : x ∈ xs <;> by_cases h2 : x ∈ cut <;> simp [h1, h2]
theorem diffF_mem {n m : Int} {xs ys : List Int} (h : validB n xs = true) (h' : validB m ys = true) : (diffF n xs m ys).Pairwise (· < ·) ∧ ∀ x, x ∈ diffF n xs m ys ↔ (x ∈ xs ∧ x ∉ ys) ∨ (x ∈ ys ∧ x ∉ xs) := by
  rw [diffF_yes h h']
  have h1 := idsB_sorted (validB_ids h)
  have h2 := idsB_sorted (validB_ids h')
  exact ⟨mergeL_sorted _ _ (among_sorted h1) (among_sorted h2) (fun x h h' => (mem_among_f.1 h').2 (mem_among_f.1 h).1), fun x => by rw [mem_mergeL, mem_among_f, mem_among_f]⟩
/-- the difference of a view and the next one is the cut -/
theorem diff_next {num : Int} {xs cut : List Int} {n : Int} {ys : List Int} (h : nextF num xs cut = (n, ys, 0)) : diffF num xs n ys = cut ∧ diffF n ys num xs = cut := by
  obtain ⟨ho, _, _, _, _, hm, _, _, hv⟩ := nextF_inv h
  have hv0 := (okCut_iff.1 ho).1
  have hc := idsB_sorted (okCut_iff.1 ho).2
  have h1 := diffF_mem hv0 hv
  have h2 := diffF_mem hv hv0
  refine ⟨sorted_ext _ _ h1.1 hc fun x => ?_, sorted_ext _ _ h2.1 hc fun x => ?_⟩
  · rw [h1.2, hm]; by_cases h1 : x ∈ xs <;> by_cases h2 : x ∈ cut <;> simp [h1, h2]
  · rw [h2.2, hm]; by_cases h1 : x ∈ xs <;> by_cases h2 : x ∈ cut <;> simp [h1, h2]
theorem diff_symm {n m : Int} {xs ys : List Int} (h : validB n xs = true) (h' : validB m ys = true) : diffF n xs m ys = diffF m ys n xs := by
  have h1 := diffF_mem h h'
  have h2 := diffF_mem h' h
  exact sorted_ext _ _ h1.1 h2.1 fun x => by rw [h1.2, h2.2]; exact Or.comm
theorem diff_self {n : Int} {xs : List Int} (h : validB n xs = true) : diffF n xs n xs = [] := by
  have h1 := diffF_mem h h
  exact sorted_ext _ _ h1.1 List.Pairwise.nil fun x => by rw [h1.2]; simp
theorem diff_has {n m : Int} {xs ys : List Int} (h : validB n xs = true) (h' : validB m ys = true) (id : Int) : hasB (diffF n xs m ys) id = (hasB xs id != hasB ys id) := by
  have h1 := (diffF_mem h h').2 id
  rw [Bool.eq_iff_iff, hasB_iff, h1, bne_iff_ne]
  cases hx : hasB xs id <;> cases hy : hasB ys id <;> simp [hasB_iff, hasB_no] at hx hy <;> simp [hx, hy]
end Go.Proofs.Ytagmocofmedmjaa
