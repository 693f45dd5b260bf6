/- Slices of ballots that the call itself makes by append; clones. -/
import Derived.Test.YtagmocofmedmjaaVote3
import Derived.Test.YtagmocofmedmjaaMerge
namespace Go.Proofs.Ytagmocofmedmjaa
open Go.RowKit

theorem info_bal : (Try.prog.info? 44).map (fun i => (i.zero, i.size, i.bytes)) = some (some (.agg #[.int .i64 0, .slice none 0 0]), 2, 32) := by kernel_rfl
theorem balV_one (bs : List Bal) : ∀ u ∈ balV bs, u.oneCell' = true := by
  intro u hu
  simp only [balV, List.mem_flatMap, List.mem_cons, List.not_mem_nil, or_false] at hu
  obtain ⟨b, _, rfl | rfl⟩ := hu <;> rfl

/-- the slice v, made by the call itself (its block is B or later), holds the ballots bs -/
def OwnB (w : World) (B : Nat) (v : Value) (bs : List Bal) : Prop := w.ownsRow B 44 2 v bs.length (balV bs)
theorem OwnB.nil (w : World) (B : Nat) : OwnB w B (.slice none 0 0) [] := ⟨rfl, .inl ⟨rfl, rfl⟩⟩
theorem OwnB.slice {w : World} {B : Nat} {v : Value} {bs : List Bal} (h : OwnB w B v bs) : ∃ A c, v = .slice A bs.length c ∧ bs.length ≤ c ∧ c ≤ maxLen ∧ Row w A (balV bs) := by
  obtain ⟨_, h2⟩ := h
  rcases h2 with ⟨rfl, hn⟩ | ⟨g, cap, cur, rfl, _, hh, h3, h4, h5, h6⟩
  · have : bs = [] := List.eq_nil_of_length_eq_zero hn
    subst this
    exact ⟨none, 0, rfl, Nat.le_refl _, Nat.zero_le _, Row.nil _ _⟩
  · refine ⟨some ⟨g, 0, none⟩, cap, rfl, h3, h4, fun _ => ⟨g, 0, rfl, ?_, fun j u hj => ?_⟩⟩
    · rcases Nat.lt_or_ge g w.heap.size with hlt | hge
      · exact hlt
      · rw [Array.getElem?_eq_none hge] at hh; cases hh
    · have hc := cell_of_row w g (0 + j) cur 44 (0, 0) hh
      rw [hc]
      rw [← h6] at hj
      simp only [List.getElem?_take] at hj
      split at hj
      · simpa using hj
      · cases hj
theorem OwnB.row {w : World} {B : Nat} {A : Option Addr} {n c : Nat} {bs : List Bal} (h : OwnB w B (.slice A n c) bs) : Row w A (balV bs) := by
  obtain ⟨A', c', hv, _, _, hr⟩ := h.slice
  cases hv
  exact hr
theorem OwnB.lt {w : World} {B : Nat} {v : Value} {bs : List Bal} (h : OwnB w B v bs) : ∀ k, v.ownBlock = some k → B ≤ k ∧ k < w.heap.size := by
  obtain ⟨_, h2⟩ := h
  rcases h2 with ⟨rfl, _⟩ | ⟨k, cap, cur, rfl, h3, hh, _⟩
  · intro k hk; simp [Value.ownBlock] at hk
  · intro k' hk
    simp only [Value.ownBlock, Option.some.injEq] at hk
    subst hk
    refine ⟨h3, ?_⟩
    rcases Nat.lt_or_ge k w.heap.size with hlt | hge
    · exact hlt
    · rw [Array.getElem?_eq_none hge] at hh; cases hh
theorem OwnB.ext {a w' : World} {B : Nat} {v : Value} {bs : List Bal} (h : OwnB a B v bs) (g : Ext a w') : OwnB w' B v bs := by
  obtain ⟨h1, h2⟩ := h
  refine ⟨h1, ?_⟩
  rcases h2 with h2 | ⟨k, cap, cur, hv, h3, hh, r⟩
  · exact .inl h2
  · have hk : k < a.heap.size := by
      rcases Nat.lt_or_ge k a.heap.size with hlt | hge
      · exact hlt
      · rw [Array.getElem?_eq_none hge] at hh; cases hh
    exact .inr ⟨k, cap, cur, hv, h3, by rw [g.block k hk]; exact hh, r⟩
theorem OwnB.base {w : World} {B B' : Nat} {v : Value} {bs : List Bal} (h : OwnB w B v bs) (hb : B' ≤ B) : OwnB w B' v bs := by
  obtain ⟨h1, h2⟩ := h
  refine ⟨h1, ?_⟩
  rcases h2 with h2 | ⟨k, cap, cur, hv, h3, r⟩
  · exact .inl h2
  · exact .inr ⟨k, cap, cur, hv, Nat.le_trans hb h3, r⟩
theorem Row.grew {a w' : World} {v : Value} {A : Option Addr} {xs : List Value} (h : Row a A xs) (g : Grew a w' v) (hne : ∀ q p, A = some p → v.ownBlock = some q → q ≠ p.block) : Row w' A xs := by
  intro hx
  obtain ⟨b, off, h1, h2, h3⟩ := h hx
  refine ⟨b, off, h1, Nat.lt_of_lt_of_le h2 g.size, fun j u hj => ?_⟩
  have hb : w'.heap[b]? = a.heap[b]? := g.block b h2 (fun e => hne b _ h1 e.symm rfl)
  have := h3 j u hj
  unfold World.cell? at *
  simpa only [hb] using this

/-- append(s, x...) at a slice of ballots of the call's own -/
theorem push_bal {ops : Array Oper} {rest : List Oper} {o : Oper} {a : Act} {Q : Exit → Act → World → Prop} (hgd : o.guard = none) (s x : Operand)
    (ho : o.op = .call { callee := .builtin .append, args := #[s, x], argTypes := #[42, 42] })
    (W : World) (B : Nat) (v : Value) (bs : List Bal) (hs : a.eval s = v) (A : Option Addr) (m c : Nat) (news : List Bal) (hx : a.eval x = .slice A m c) (hm : m = news.length) (hr : Row W A (balV news))
    (hown : OwnB W B v bs) (hl : bs.length + m < 2000000000) (hb : B ≤ W.heap.size)
    (h : ∀ v' w', OwnB w' B v' (bs ++ news) → Grew W w' v → Stems W v v' → wpList Try.prog ops Q rest (a.put o.dst v') w') :
    wpList Try.prog ops Q (o :: rest) a W := by
  obtain ⟨i0, hi, hz0, hz1', hz2⟩ := info_parts info_bal
  rcases A with _ | ad
  · have hn : news = [] := by
      rcases news with _ | ⟨u, l⟩
      · rfl
      · obtain ⟨b, off, hh, _⟩ := hr (by simp [balV])
        cases hh
    subst hn
    simp only [List.length_nil] at hm
    subst hm
    refine wp_append_nil W hgd s x _ ho B _ i0 2 Try.underlying42 hi v bs.length (balV bs) hs hown c hx ?_
    refine h v W (by rw [List.append_nil]; exact hown) ⟨rfl, rfl, rfl, Nat.le_refl _, fun _ _ _ => rfl⟩ (.inl rfl)
  · refine wpList_append_own_at _ hgd s x _ ho B _ i0 _ 2 32 Try.underlying42 hi hz0 hz1' hz2 rfl (by decide) v bs.length (balV bs) hs hown ad m c (balV news) hx (by rw [balV_len]; omega) ?_ (balV_one _) (by unfold maxLen; omega) ?_ hb ?_
    · intro j q hj
      obtain ⟨b, off, hh, _, h3⟩ := hr.addr (List.getElem?_eq_some_iff.1 hj).1
      cases hh
      have := h3 j q hj
      unfold Addr.add
      split
      · next h0 => subst h0; simpa using this
      · exact this
    · calc (bs.length + m) * 32 ≤ 2000000000 * 32 := Nat.mul_le_mul (by omega) (Nat.le_refl _)
        _ ≤ _ := by decide
    · intro v' w' h2 h3 _ h4
      have hl1 : (bs ++ news).length = bs.length + m := by rw [List.length_append, hm]
      refine h v' w' ?_ h3 ?_
      · unfold OwnB; rw [hl1, balV_append]; exact h2
      · rcases h4 with h4 | h4
        · exact .inl h4
        · exact .inr ⟨_, h4, Nat.le_refl _⟩
end Go.Proofs.Ytagmocofmedmjaa
