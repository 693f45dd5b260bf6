/- append as one step of a region that draws its order. -/
import Derived.Test.YtagmocofmedmjaaBytes
import Derived.RegionTactic
import Derived.Deep.RegionHeld3
namespace Go.Proofs.Ytagmocofmedmjaa
open Go.RowKit

/-- append(s, x...) at a slice of one-cell elements of the call's own, as one step of a region that draws its order -/
theorem step_push_row {P : Program} {ops : Array Oper} {o : Oper} {a : Act} {K : Act → World → Prop} {Q : Exit → Act → World → Prop} {E : Prop} (hgd : o.guard = none) (s x : Operand) (t e : TypeId) (z : Value) (bytes : Nat)
    (ho : o.op = .call { callee := .builtin .append, args := #[s, x], argTypes := #[t, t] }) (ht : P.underlying t = some (.slice e))
    (hinfo : (P.info? e).map (fun i => (i.zero, i.size, i.bytes)) = some (some z, 1, bytes)) (hz1 : z.cells.size = 1) (hby : bytes ≤ 64)
    (W : World) (B : Nat) (v : Value) (xs : List Value) (hs : a.eval s = v) (A : Option Addr) (m c : Nat) (news : List Value) (hx : a.eval x = .slice A m c) (hm : m = news.length) (hr : Row W A news) (h1 : ∀ u ∈ news, u.oneCell' = true)
    (hown : Own W B e v xs) (hl : xs.length + m < 2000000000) (hb : B ≤ W.heap.size)
    (h : ∀ v' w', Own w' B e v' (xs ++ news) → Grew W w' v → Stems W v v' → K (a.put o.dst v') w') :
    if Region.wanted o (yielded ops a.tmps) = true then Oper.wp P o a W K Q else E := by
  have hw : Region.wanted o (yielded ops a.tmps) = true := by simp [Region.wanted, hgd]
  rw [if_pos hw]
  obtain ⟨i0, hi, hz0, hz1', hz2⟩ := info_parts hinfo
  rcases A with _ | ad
  · have hn : news = [] := by
      rcases news with _ | ⟨u, l⟩
      · rfl
      · obtain ⟨b, off, hh, _⟩ := hr (by simp)
        cases hh
    subst hn
    simp only [List.length_nil] at hm
    subst hm
    have hrun := run_append_nil (P := P) W B t o.type e i0 1 ht hi v xs.length xs hown c
    unfold Oper.wp execOp
    simp only [ho, resolve, invoke, builtin, Sem.run_bind, Sem.run_pure, Result.andThen_ok, List.map_toArray, List.map_cons, List.map_nil, hs, hx, hrun]
    exact h v W (by rw [List.append_nil]; exact hown) ⟨rfl, rfl, rfl, Nat.le_refl _, fun _ _ _ => rfl⟩ (.inl rfl)
  · obtain ⟨v', w', hrun, h2, h3, _, h4⟩ := run_append_own_at (P := P) W B t o.type e i0 z 1 bytes ht hi hz0 hz1' hz2 hz1 (by decide) v xs.length xs hown ad m c news (by omega) (by
      intro j q hj
      obtain ⟨b, off, hh, _, h3⟩ := hr.addr (List.getElem?_eq_some_iff.1 hj).1
      cases hh
      have := h3 j q hj
      unfold Addr.add
      split
      · next h0 => subst h0; simpa using this
      · exact this) h1 (by unfold maxLen; omega) (by
      calc (xs.length + m) * bytes ≤ 2000000000 * 64 := Nat.mul_le_mul (by omega) hby
        _ ≤ _ := by decide) hb
    unfold Oper.wp execOp
    simp only [ho, resolve, invoke, builtin, Sem.run_bind, Sem.run_pure, Result.andThen_ok, List.map_toArray, List.map_cons, List.map_nil, hs, hx, hrun]
    have hl1 : (xs ++ news).length = xs.length + m := by rw [List.length_append, hm]
    refine h v' w' ?_ h3 ?_
    · unfold Own; rw [hl1]; exact h2
    · rcases h4 with h4 | h4
      · exact .inl h4
      · exact .inr ⟨_, h4, Nat.le_refl _⟩
end Go.Proofs.Ytagmocofmedmjaa
