/- Plain functions on lists of numbers: what the layers 3 and 8 compute. No program in sight. -/
namespace Go.Proofs.Ytagmocofmedmjaa

/-- the index of the first id in a list, counted from k; -1 where there is none -/
def find (id : Int) : List Int → Nat → Int
  | [], _ => -1
  | x :: xs, k => if x = id then (k : Int) else find id xs (k + 1)
def place (xs : List Int) (id : Int) : Int := find id xs 0

/-- every number is above the one ahead of it and at most 1000 -/
def rises : Int → List Int → Bool
  | _, [] => true
  | last, x :: xs => if x ≤ last ∨ 1000 < x then false else rises x xs

/-- 1 to most identifiers in strictly ascending order -/
def idsB (xs : List Int) (most : Int) : Bool :=
  if (xs.length : Int) < 1 ∨ most < (xs.length : Int) then false else rises 0 xs

theorem drop_at {xs : List Int} {k : Nat} {x : Int} (h : xs[k]? = some x) : xs.drop k = x :: xs.drop (k + 1) := by
  obtain ⟨hk, rfl⟩ := List.getElem?_eq_some_iff.1 h
  exact List.drop_eq_getElem_cons hk

theorem find_hit {xs : List Int} {id x : Int} {k : Nat} (h : xs[k]? = some x) (he : x = id) : find id (xs.drop k) k = (k : Int) := by
  rw [drop_at h, find, if_pos he]
theorem find_miss {xs : List Int} {id x : Int} {k : Nat} (h : xs[k]? = some x) (he : ¬ x = id) : find id (xs.drop k) k = find id (xs.drop (k + 1)) (k + 1) := by
  rw [drop_at h, find, if_neg he]
theorem find_end {xs : List Int} {id : Int} {k : Nat} (h : ¬ k < xs.length) : find id (xs.drop k) k = -1 := by
  rw [List.drop_of_length_le (by omega)]; rfl

theorem rises_lo {xs : List Int} {last x : Int} {k : Nat} (h : xs[k]? = some x) (he : x ≤ last) : rises last (xs.drop k) = false := by
  rw [drop_at h, rises, if_pos (.inl he)]
theorem rises_hi {xs : List Int} {last x : Int} {k : Nat} (h : xs[k]? = some x) (he : 1000 < x) : rises last (xs.drop k) = false := by
  rw [drop_at h, rises, if_pos (.inr he)]
theorem rises_on {xs : List Int} {last x : Int} {k : Nat} (h : xs[k]? = some x) (h1 : last < x) (h2 : x ≤ 1000) : rises last (xs.drop k) = rises x (xs.drop (k + 1)) := by
  rw [drop_at h, rises, if_neg (by omega)]
theorem rises_end {xs : List Int} {last : Int} {k : Nat} (h : ¬ k < xs.length) : rises last (xs.drop k) = true := by
  rw [List.drop_of_length_le (by omega)]; rfl

def hasB (xs : List Int) (id : Int) : Bool := decide (0 ≤ place xs id)
def isId (id : Int) : Bool := decide (1 ≤ id) && decide (id ≤ 1000)
def majZ (n : Int) : Int := if 1 ≤ n ∧ n ≤ 16 then n / 2 + 1 else 0
def fqZ (n : Int) : Int := if 1 ≤ n ∧ n ≤ 16 then n - (n - 1) / 4 else 0
def validB (num : Int) (xs : List Int) : Bool := decide (0 ≤ num) && decide (num ≤ 1099511627776) && idsB xs 16

theorem idsB_short {xs : List Int} {m : Int} (h : (xs.length : Int) < 1) : idsB xs m = false := by unfold idsB; rw [if_pos (.inl h)]
theorem idsB_long {xs : List Int} {m : Int} (h : m < (xs.length : Int)) : idsB xs m = false := by unfold idsB; rw [if_pos (.inr h)]
theorem idsB_mid {xs : List Int} {m : Int} (h : (1 : Int) ≤ xs.length) (h' : (xs.length : Int) ≤ m) : idsB xs m = rises 0 xs := by unfold idsB; rw [if_neg (by omega)]
theorem validB_neg {n : Int} {xs : List Int} (h : n < 0) : validB n xs = false := by unfold validB; rw [decide_eq_false (by omega)]; rfl
theorem validB_big {n : Int} {xs : List Int} (h : 1099511627776 < n) : validB n xs = false := by unfold validB; rw [decide_eq_false (p := n ≤ 1099511627776) (by omega)]; simp
theorem validB_mid {n : Int} {xs : List Int} (h : 0 ≤ n) (h' : n ≤ 1099511627776) : validB n xs = idsB xs 16 := by unfold validB; rw [decide_eq_true h, decide_eq_true h']; rfl

/-- of the first k those that p takes -/
def filt (p : Int → Bool) (xs : List Int) (k : Nat) : List Int := (xs.take k).filter p
theorem take_snoc {α : Type} {xs : List α} {k : Nat} {x : α} (h : xs[k]? = some x) : xs.take (k + 1) = xs.take k ++ [x] := by
  rw [List.take_add_one, h]; rfl
theorem filt_in {p : Int → Bool} {xs : List Int} {k : Nat} {x : Int} (h : xs[k]? = some x) (hp : p x = true) : filt p xs (k + 1) = filt p xs k ++ [x] := by
  unfold filt; rw [take_snoc h, List.filter_append]; simp [hp]
theorem filt_out {p : Int → Bool} {xs : List Int} {k : Nat} {x : Int} (h : xs[k]? = some x) (hp : p x = false) : filt p xs (k + 1) = filt p xs k := by
  unfold filt; rw [take_snoc h, List.filter_append]; simp [hp]
theorem filt_len (p : Int → Bool) (xs : List Int) (k : Nat) : (filt p xs k).length ≤ k := by
  unfold filt; have h1 := List.length_filter_le p (xs.take k); have h2 := List.length_take_le k xs; omega
theorem filt_all {p : Int → Bool} {xs : List Int} {k : Nat} (h : ¬ k < xs.length) : filt p xs k = xs.filter p := by
  unfold filt; rw [List.take_of_length_le (by omega)]
def among (l m : List Int) (b : Bool) : List Int := l.filter fun x => hasB m x == b

/-- one step of Insert: what has been gathered, and whether id is among it -/
def insStep (id : Int) (s : List Int × Bool) (x : Int) : List Int × Bool := if s.2 = false ∧ id < x then (s.1 ++ [id] ++ [x], true) else (s.1 ++ [x], s.2)
def insSt (id : Int) (xs : List Int) (k : Nat) : List Int × Bool := (xs.take k).foldl (insStep id) ([], false)
def insertL (xs : List Int) (id : Int) : List Int := let s := insSt id xs xs.length; if s.2 then s.1 else s.1 ++ [id]
theorem insSt_succ {id : Int} {xs : List Int} {k : Nat} {x : Int} (h : xs[k]? = some x) : insSt id xs (k + 1) = insStep id (insSt id xs k) x := by
  unfold insSt; rw [take_snoc h, List.foldl_append]; rfl
theorem insSt_len (id : Int) (xs : List Int) (k : Nat) : (insSt id xs k).1.length ≤ 2 * k := by
  induction k with
  | zero => simp [insSt]
  | succ k ih =>
    cases h : xs[k]? with
    | none =>
      have : xs.take (k + 1) = xs.take k := by rw [List.take_add_one, h]; simp
      unfold insSt at *; rw [this]; omega
    | some x => rw [insSt_succ h]; unfold insStep; split <;> simp <;> omega
theorem insSt_put {id : Int} {xs : List Int} {k : Nat} {x : Int} (h : xs[k]? = some x) (hp : (insSt id xs k).2 = false) (hx : id < x) : (insSt id xs (k + 1)).1 = (insSt id xs k).1 ++ [id] ++ [x] ∧ (insSt id xs (k + 1)).2 = true := by
  rw [insSt_succ h]; unfold insStep; rw [if_pos ⟨hp, hx⟩]; exact ⟨rfl, rfl⟩
theorem insSt_low {id : Int} {xs : List Int} {k : Nat} {x : Int} (h : xs[k]? = some x) (hp : (insSt id xs k).2 = false) (hx : x ≤ id) : (insSt id xs (k + 1)).1 = (insSt id xs k).1 ++ [x] ∧ (insSt id xs (k + 1)).2 = false := by
  rw [insSt_succ h]; unfold insStep; rw [if_neg (by omega)]; exact ⟨rfl, hp⟩
theorem insSt_on {id : Int} {xs : List Int} {k : Nat} {x : Int} (h : xs[k]? = some x) (hp : (insSt id xs k).2 = true) : (insSt id xs (k + 1)).1 = (insSt id xs k).1 ++ [x] ∧ (insSt id xs (k + 1)).2 = true := by
  rw [insSt_succ h]; unfold insStep; rw [if_neg (by simp [hp])]; exact ⟨rfl, hp⟩
theorem insertL_yes {id : Int} {xs : List Int} {k : Nat} (h : ¬ k < xs.length) (hk : k ≤ xs.length) (hp : (insSt id xs k).2 = true) : insertL xs id = (insSt id xs k).1 := by
  have : k = xs.length := by omega
  subst this; unfold insertL; simp [hp]
theorem insertL_no {id : Int} {xs : List Int} {k : Nat} (h : ¬ k < xs.length) (hk : k ≤ xs.length) (hp : (insSt id xs k).2 = false) : insertL xs id = (insSt id xs k).1 ++ [id] := by
  have : k = xs.length := by omega
  subst this; unfold insertL; simp [hp]

def sameB (xs ys : List Int) : Bool := decide (xs = ys)
theorem sameB_len {xs ys : List Int} (h : ¬ xs.length = ys.length) : sameB xs ys = false := decide_eq_false (fun e => h (by rw [e]))
theorem sameB_diff {xs ys : List Int} {k : Nat} {x y : Int} (hx : xs[k]? = some x) (hy : ys[k]? = some y) (h : ¬ x = y) : sameB xs ys = false :=
  decide_eq_false (fun e => h (by rw [e, hy] at hx; exact (Option.some.inj hx).symm))
theorem same_step {xs ys : List Int} {k : Nat} {x y : Int} (hx : xs[k]? = some x) (hy : ys[k]? = some y) (h : x = y) (ht : xs.take k = ys.take k) : xs.take (k + 1) = ys.take (k + 1) := by
  rw [take_snoc hx, take_snoc hy, ht, h]
theorem sameB_all {xs ys : List Int} {k : Nat} (hk : ¬ k < xs.length) (hl : xs.length = ys.length) (ht : xs.take k = ys.take k) : sameB xs ys = true := by
  rw [List.take_of_length_le (by omega), List.take_of_length_le (by omega)] at ht
  exact decide_eq_true ht

def leB (x y : Int) : Bool := decide (x ≤ y)
def mergeL (a b : List Int) : List Int := a.merge b leB
theorem merge_take {out a b m : List Int} {i j : Nat} {x y : Int} (hx : a[i]? = some x) (hy : b[j]? = some y) (h : x ≤ y) (e : out ++ mergeL (a.drop i) (b.drop j) = m) : (out ++ [x]) ++ mergeL (a.drop (i + 1)) (b.drop j) = m := by
  rw [← e, drop_at hx, drop_at hy]; unfold mergeL; rw [List.cons_merge_cons_pos _ _ _ (by simp [leB, h])]; simp
theorem merge_put {out a b m : List Int} {i j : Nat} {x y : Int} (hx : a[i]? = some x) (hy : b[j]? = some y) (h : y < x) (e : out ++ mergeL (a.drop i) (b.drop j) = m) : (out ++ [y]) ++ mergeL (a.drop i) (b.drop (j + 1)) = m := by
  rw [← e, drop_at hx, drop_at hy]; unfold mergeL; rw [List.cons_merge_cons_neg _ _ _ (by simp [leB]; omega)]; simp
theorem merge_tail {out a b m : List Int} {i j : Nat} {y : Int} (hi : ¬ i < a.length) (hy : b[j]? = some y) (e : out ++ mergeL (a.drop i) (b.drop j) = m) : (out ++ [y]) ++ mergeL (a.drop i) (b.drop (j + 1)) = m := by
  rw [← e, drop_at hy, List.drop_eq_nil_of_le (by omega)]; unfold mergeL; simp
theorem merge_end {out a b m : List Int} {i j : Nat} (hj : ¬ j < b.length) (e : out ++ mergeL (a.drop i) (b.drop j) = m) : out ++ a.drop i = m := by
  rw [← e, List.drop_eq_nil_of_le (as := b) (by omega)]; unfold mergeL; simp

def okCut (num : Int) (xs cut : List Int) : Bool := validB num xs && idsB cut 32
def leavers (num : Int) (xs cut : List Int) : List Int := if okCut num xs cut then among cut xs true else []
def joiners (num : Int) (xs cut : List Int) : List Int := if okCut num xs cut then among cut xs false else []
def survivors (num : Int) (xs cut : List Int) : List Int := if okCut num xs cut then among xs cut false else []
theorem idsB_len {xs : List Int} {m : Nat} (h : idsB xs m = true) : 1 ≤ xs.length ∧ xs.length ≤ m := by
  unfold idsB at h
  split at h
  · cases h
  · omega
theorem validB_len {n : Int} {xs : List Int} (h : validB n xs = true) : 1 ≤ xs.length ∧ xs.length ≤ 16 := by
  unfold validB at h; simp only [Bool.and_eq_true] at h; exact idsB_len h.2
theorem okCut_iff {num : Int} {xs cut : List Int} : okCut num xs cut = true ↔ validB num xs = true ∧ idsB cut 32 = true := by simp [okCut]
theorem okCut_not {num : Int} {xs cut : List Int} (h : okCut num xs cut = false) : validB num xs = false ∨ (validB num xs = true ∧ idsB cut 32 = false) := by
  unfold okCut at h; cases h1 : validB num xs <;> simp_all
theorem among_len (l m : List Int) (b : Bool) : (among l m b).length ≤ l.length := List.length_filter_le _ _

/-- Next: the number and the members of the view that follows, and the error -/
def nextF (num : Int) (xs cut : List Int) : Int × List Int × Int :=
  if okCut num xs cut = false then (0, [], 1)
  else if 2 * (survivors num xs cut).length ≤ xs.length then (0, [], 9)
  else if num = 1099511627776 ∨ 16 < (survivors num xs cut).length + (joiners num xs cut).length then (0, [], 5)
  else (num + 1, mergeL (survivors num xs cut) (joiners num xs cut), 0)

theorem validB_num {n : Int} {xs : List Int} (h : validB n xs = true) : 0 ≤ n ∧ n ≤ 1099511627776 := by
  unfold validB at h; simp only [Bool.and_eq_true, decide_eq_true_eq] at h; exact h.1
theorem nextF_maj {num : Int} {xs cut : List Int} (h : okCut num xs cut = true) (h1 : 2 * (survivors num xs cut).length ≤ xs.length) : nextF num xs cut = (0, [], 9) := by
  unfold nextF; rw [if_neg (by simp [h]), if_pos h1]
theorem nextF_lim {num : Int} {xs cut : List Int} (h : okCut num xs cut = true) (h1 : ¬ 2 * (survivors num xs cut).length ≤ xs.length) (h2 : num = 1099511627776 ∨ 16 < (survivors num xs cut).length + (joiners num xs cut).length) : nextF num xs cut = (0, [], 5) := by
  unfold nextF; rw [if_neg (by simp [h]), if_neg h1, if_pos h2]
theorem nextF_ok {num : Int} {xs cut : List Int} (h : okCut num xs cut = true) (h1 : ¬ 2 * (survivors num xs cut).length ≤ xs.length) (h2 : ¬ (num = 1099511627776 ∨ 16 < (survivors num xs cut).length + (joiners num xs cut).length)) : nextF num xs cut = (num + 1, mergeL (survivors num xs cut) (joiners num xs cut), 0) := by
  unfold nextF; rw [if_neg (by simp [h]), if_neg h1, if_neg h2]
theorem surv_len {num : Int} {xs cut : List Int} (h : okCut num xs cut = true) : (survivors num xs cut).length ≤ 16 := by
  unfold survivors; rw [if_pos h]; have := among_len xs cut false; have := (validB_len (okCut_iff.1 h).1).2; omega
theorem join_len {num : Int} {xs cut : List Int} (h : okCut num xs cut = true) : (joiners num xs cut).length ≤ 32 := by
  unfold joiners; rw [if_pos h]; have := among_len cut xs false; have := (idsB_len (m := 32) (okCut_iff.1 h).2).2; omega
end Go.Proofs.Ytagmocofmedmjaa
