/- Plain laws of layer 3: Insert one by one is a merge; what the reference's Next and Diff compute. -/
import Derived.Test.YtagmocofmedmjaaPlain
namespace Go.Proofs.Ytagmocofmedmjaa

theorem mergeL_nil (a : List Int) : mergeL a [] = a := by unfold mergeL; simp
theorem nil_mergeL (a : List Int) : mergeL [] a = a := by unfold mergeL; simp
theorem mergeL_le {x y : Int} {a b : List Int} (h : x ≤ y) : mergeL (x :: a) (y :: b) = x :: mergeL a (y :: b) := by
  unfold mergeL; rw [List.cons_merge_cons_pos _ _ _ (by simp [leB, h])]
theorem mergeL_gt {x y : Int} {a b : List Int} (h : y < x) : mergeL (x :: a) (y :: b) = y :: mergeL (x :: a) b := by
  unfold mergeL; rw [List.cons_merge_cons_neg _ _ _ (by simp [leB]; omega)]

def insEnd (id : Int) (s : List Int × Bool) : List Int := if s.2 then s.1 else s.1 ++ [id]
theorem ins_run (id : Int) (xs : List Int) : ∀ (o : List Int),
    insEnd id (xs.foldl (insStep id) (o, false)) = o ++ mergeL xs [id] ∧ (xs.foldl (insStep id) (o, true)) = (o ++ xs, true) := by
  induction xs with
  | nil => intro o; simp [nil_mergeL, insEnd]
  | cons x xs ih =>
    intro o
    have e2 : insStep id (o, true) x = (o ++ [x], true) := by simp [insStep]
    refine ⟨?_, ?_⟩
    · rw [List.foldl_cons]
      by_cases h : id < x
      · have e1 : insStep id (o, false) x = (o ++ [id] ++ [x], true) := by simp [insStep, h]
        rw [e1, (ih _).2, mergeL_gt h, mergeL_nil]; simp [insEnd]
      · have e1 : insStep id (o, false) x = (o ++ [x], false) := by simp [insStep, h]
        rw [e1, mergeL_le (by omega), (ih (o ++ [x])).1]; simp
    · rw [List.foldl_cons, e2, (ih _).2]; simp

theorem insertL_eq (xs : List Int) (id : Int) : insertL xs id = mergeL xs [id] := by
  have h1 : insertL xs id = insEnd id (insSt id xs xs.length) := rfl
  have h2 := (ins_run id xs []).1
  rw [h1]; unfold insSt; rw [List.take_length, h2]; simp

theorem merge_one (s js : List Int) (j : Int) (h : ∀ y ∈ js, j ≤ y) : mergeL s (j :: js) = mergeL (mergeL s [j]) js := by
  have hd : ∀ l : List Int, mergeL (j :: l) js = j :: mergeL l js := by
    intro l
    cases js with
    | nil => rw [mergeL_nil, mergeL_nil]
    | cons y js => exact mergeL_le (h y (by simp))
  induction s with
  | nil => rw [nil_mergeL, nil_mergeL, hd, nil_mergeL]
  | cons x s ih =>
    by_cases hx : x ≤ j
    · rw [mergeL_le hx, mergeL_le hx, ih]
      cases js with
      | nil => rw [mergeL_nil, mergeL_nil]
      | cons y js => rw [mergeL_le (Int.le_trans hx (h y (by simp)))]
    · rw [mergeL_gt (by omega), mergeL_gt (by omega), mergeL_nil, hd]

/-- the first k of js, put into s one by one -/
def foldIns (s js : List Int) (k : Nat) : List Int := (js.take k).foldl insertL s
theorem foldIns_succ {s js : List Int} {k : Nat} {x : Int} (h : js[k]? = some x) : foldIns s js (k + 1) = insertL (foldIns s js k) x := by
  unfold foldIns; rw [take_snoc h, List.foldl_append]; rfl
theorem insertL_len (xs : List Int) (id : Int) : (insertL xs id).length = xs.length + 1 := by
  rw [insertL_eq]; unfold mergeL; simp
theorem foldIns_len {s js : List Int} (k : Nat) (hk : k ≤ js.length) : (foldIns s js k).length = s.length + k := by
  induction k with
  | zero => simp [foldIns]
  | succ k ih =>
    rw [foldIns_succ (List.getElem?_eq_getElem (by omega)), insertL_len, ih (by omega)]; omega
theorem fold_merge (js : List Int) : ∀ s, js.Pairwise (· ≤ ·) → js.foldl insertL s = mergeL s js := by
  induction js with
  | nil => intro s _; rw [mergeL_nil]; rfl
  | cons j js ih =>
    intro s h
    rw [List.pairwise_cons] at h
    rw [List.foldl_cons, ih _ h.2, insertL_eq, ← merge_one s js j h.1]
theorem foldIns_all {s js : List Int} {k : Nat} (hk : ¬ k < js.length) (h : js.Pairwise (· ≤ ·)) : foldIns s js k = mergeL s js := by
  unfold foldIns; rw [List.take_of_length_le (by omega), fold_merge js s h]

theorem rises_iff (xs : List Int) : ∀ last, rises last xs = true ↔ xs.Pairwise (· < ·) ∧ ∀ x ∈ xs, last < x ∧ x ≤ 1000 := by
  induction xs with
  | nil => intro last; simp [rises]
  | cons x xs ih =>
    intro last
    unfold rises
    by_cases h : x ≤ last ∨ 1000 < x
    · rw [if_pos h]
      simp only [Bool.false_eq_true, false_iff, not_and]
      intro _ hall
      have := hall x (by simp)
      omega
    · rw [if_neg h, ih, List.pairwise_cons]
      constructor
      · rintro ⟨h1, h2⟩
        refine ⟨⟨fun y hy => (h2 y hy).1, h1⟩, fun y hy => ?_⟩
        rcases List.mem_cons.1 hy with rfl | hy
        · omega
        · have := h2 y hy; omega
      · rintro ⟨⟨h1, h2⟩, h3⟩
        exact ⟨h2, fun y hy => ⟨h1 y hy, (h3 y (by simp [hy])).2⟩⟩
theorem idsB_iff {xs : List Int} {m : Nat} : idsB xs m = true ↔ 1 ≤ xs.length ∧ xs.length ≤ m ∧ xs.Pairwise (· < ·) ∧ ∀ x ∈ xs, 0 < x ∧ x ≤ 1000 := by
  unfold idsB
  by_cases h : (xs.length : Int) < 1 ∨ (m : Int) < (xs.length : Int)
  · rw [if_pos h]; simp only [Bool.false_eq_true, false_iff]; omega
  · rw [if_neg h, rises_iff]
    exact ⟨fun k => ⟨by omega, by omega, k⟩, fun k => k.2.2⟩
theorem idsB_sorted {xs : List Int} {m : Int} (h : idsB xs m = true) : xs.Pairwise (· < ·) := by
  unfold idsB at h
  split at h
  · cases h
  · exact ((rises_iff xs 0).1 h).1
theorem validB_ids {n : Int} {xs : List Int} (h : validB n xs = true) : idsB xs 16 = true := by
  unfold validB at h; simp only [Bool.and_eq_true] at h; exact h.2
theorem among_le {l m : List Int} {b : Bool} (h : l.Pairwise (· < ·)) : (among l m b).Pairwise (· ≤ ·) :=
  (List.Pairwise.filter _ h).imp (fun h => Int.le_of_lt h)
theorem joiners_le (num : Int) (xs cut : List Int) : (joiners num xs cut).Pairwise (· ≤ ·) := by
  unfold joiners
  split
  · next h => exact among_le (idsB_sorted (okCut_iff.1 h).2)
  · exact List.Pairwise.nil

def diffF (n : Int) (xs : List Int) (m : Int) (ys : List Int) : List Int := if validB n xs && validB m ys then mergeL (among xs ys false) (among ys xs false) else []
theorem diffF_yes {n m : Int} {xs ys : List Int} (h1 : validB n xs = true) (h2 : validB m ys = true) : diffF n xs m ys = mergeL (among xs ys false) (among ys xs false) := by simp [diffF, h1, h2]
theorem diffF_no1 {n m : Int} {xs ys : List Int} (h1 : validB n xs = false) : diffF n xs m ys = [] := by simp [diffF, h1]
theorem diffF_no2 {n m : Int} {xs ys : List Int} (h2 : validB m ys = false) : diffF n xs m ys = [] := by simp [diffF, h2]
theorem ids16_32 {xs : List Int} (h : idsB xs 16 = true) : idsB xs 32 = true := by
  have := (idsB_iff (m := 16)).1 h; exact (idsB_iff (m := 32)).2 ⟨this.1, by omega, this.2.2⟩
def sameV (n : Int) (xs : List Int) (m : Int) (ys : List Int) : Bool := decide (n = m) && sameB xs ys
end Go.Proofs.Ytagmocofmedmjaa
