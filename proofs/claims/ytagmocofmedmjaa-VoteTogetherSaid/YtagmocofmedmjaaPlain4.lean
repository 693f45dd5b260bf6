/- Plain laws of layer 3: leavers and survivors make up the members. -/
import Derived.Test.YtagmocofmedmjaaPlain3
namespace Go.Proofs.Ytagmocofmedmjaa
theorem among_both {a b : List Int} (ha : a.Pairwise (· < ·)) (hb : b.Pairwise (· < ·)) : among a b true = among b a true :=
  sorted_ext _ _ (among_sorted ha) (among_sorted hb) fun x => by rw [mem_among_t, mem_among_t]; exact And.comm
theorem okCut_parts {num : Int} {xs cut : List Int} (h : okCut num xs cut = true) : (among cut xs true).length + (among cut xs false).length = cut.length ∧ (among cut xs true).length + (among xs cut false).length = xs.length := by
  refine ⟨among_parts cut xs, ?_⟩
  rw [among_both (idsB_sorted (okCut_iff.1 h).2) (idsB_sorted (validB_ids (okCut_iff.1 h).1))]
  exact among_parts xs cut
theorem has_t (l m : List Int) (id : Int) : hasB (among l m true) id = (hasB l id && hasB m id) := by
  rw [Bool.eq_iff_iff, hasB_iff, mem_among_t, Bool.and_eq_true, hasB_iff, hasB_iff]
theorem has_f (l m : List Int) (id : Int) : hasB (among l m false) id = (hasB l id && !hasB m id) := by
  rw [Bool.eq_iff_iff, hasB_iff, mem_among_f, Bool.and_eq_true, hasB_iff, Bool.not_eq_true', hasB_no]
theorem has_next {num : Int} {xs cut : List Int} {n : Int} {ys : List Int} (h : nextF num xs cut = (n, ys, 0)) (id : Int) : hasB ys id = (hasB xs id != hasB cut id) := by
  have h1 := (nextF_inv h).2.2.2.2.2.1 id
  rw [Bool.eq_iff_iff, hasB_iff, h1, bne_iff_ne]
  cases hx : hasB xs id <;> cases hy : hasB cut id <;> simp [hasB_iff, hasB_no] at hx hy <;> simp [hx, hy]
end Go.Proofs.Ytagmocofmedmjaa
