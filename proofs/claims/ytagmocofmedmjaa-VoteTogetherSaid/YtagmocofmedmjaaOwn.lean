/- Slices that the call itself makes by append: one element more. -/
import Derived.Test.YtagmocofmedmjaaWords
import Derived.Maps.AppendAt
import Derived.Deep.AppendLies
namespace Go.Proofs.Ytagmocofmedmjaa
open Go.RowKit

theorem info_int : (Try.prog.info? 3).map (fun i => (i.zero, i.size, i.bytes)) = some (some (.int .i64 0), 1, 8) := by kernel_rfl
theorem info_u8 : (Try.prog.info? 5).map (fun i => (i.zero, i.size, i.bytes)) = some (some (.int .u8 0), 1, 1) := by kernel_rfl

/-- the slice v, made by the call itself (its block is B or later), holds the cells xs, one cell an element -/
def Own (w : World) (B : Nat) (e : TypeId) (v : Value) (xs : List Value) : Prop := w.ownsRow B e 1 v xs.length xs

/-- from a to w': new blocks, and writes to the one block of v -/
def Grew (a w' : World) (v : Value) : Prop := a.grownBy w' v.ownBlock

/-- the block of v' is that of v, or one that was not there -/
def Stems (a : World) (v v' : Value) : Prop := v'.ownBlock = v.ownBlock ∨ ∃ g, v'.ownBlock = some g ∧ a.heap.size ≤ g

theorem Own.nil (w : World) (B : Nat) (e : TypeId) : Own w B e (.slice none 0 0) [] := ⟨rfl, .inl ⟨rfl, rfl⟩⟩

theorem Own.slice {w : World} {B : Nat} {e : TypeId} {v : Value} {xs : List Value} (h : Own w B e v xs) :
    ∃ A c, v = .slice A xs.length c ∧ xs.length ≤ c ∧ c ≤ maxLen ∧ Row w A xs := by
  obtain ⟨_, h2⟩ := h
  rcases h2 with ⟨rfl, hn⟩ | ⟨g, cap, cur, rfl, _, hh, h3, h4, h5, h6⟩
  · have : xs = [] := List.eq_nil_of_length_eq_zero hn
    subst this
    exact ⟨none, 0, rfl, Nat.le_refl _, Nat.zero_le _, Row.nil _ _⟩
  · refine ⟨some ⟨g, 0, none⟩, cap, rfl, h3, h4, fun _ => ⟨g, 0, rfl, ?_, fun j u hj => ?_⟩⟩
    · rcases Nat.lt_or_ge g w.heap.size with hlt | hge
      · exact hlt
      · rw [Array.getElem?_eq_none hge] at hh; cases hh
    · have hc := cell_of_row w g (0 + j) cur e (0, 0) hh
      rw [hc]
      rw [← h6] at hj
      have hj' := (List.getElem?_eq_some_iff.1 hj).1
      simp only [List.getElem?_take] at hj
      split at hj
      · simpa using hj
      · cases hj

theorem Own.kept {a w' : World} {B : Nat} {e : TypeId} {v u : Value} {xs : List Value} (h : Own a B e v xs) (g : Grew a w' u) (hne : ∀ k, v.ownBlock = some k → u.ownBlock ≠ some k) : Own w' B e v xs := by
  obtain ⟨h1, h2⟩ := h
  refine ⟨h1, ?_⟩
  rcases h2 with h2 | ⟨k, cap, cur, hv, h3, hh, r⟩
  · exact .inl h2
  · subst hv
    have hk : k < a.heap.size := by
      rcases Nat.lt_or_ge k a.heap.size with hlt | hge
      · exact hlt
      · rw [Array.getElem?_eq_none hge] at hh; cases hh
    exact .inr ⟨k, cap, cur, rfl, h3, by rw [g.block k hk (fun e => hne k rfl e.symm)]; exact hh, r⟩

theorem Own.lt {w : World} {B : Nat} {e : TypeId} {v : Value} {xs : List Value} (h : Own w B e v xs) : ∀ k, v.ownBlock = some k → B ≤ k ∧ k < w.heap.size := by
  obtain ⟨_, h2⟩ := h
  rcases h2 with ⟨rfl, _⟩ | ⟨k, cap, cur, rfl, h3, hh, _⟩
  · intro k hk; simp [Value.ownBlock] at hk
  · intro k' hk
    simp only [Value.ownBlock, Option.some.injEq] at hk
    subst hk
    refine ⟨h3, ?_⟩
    rcases Nat.lt_or_ge k w.heap.size with hlt | hge
    · exact hlt
    · rw [Array.getElem?_eq_none hge] at hh; cases hh

theorem Own.ext {a w' : World} {B : Nat} {e : TypeId} {v : Value} {xs : List Value} (h : Own a B e v xs) (g : Ext a w') : Own w' B e v xs := by
  obtain ⟨h1, h2⟩ := h
  refine ⟨h1, ?_⟩
  rcases h2 with h2 | ⟨k, cap, cur, hv, h3, hh, r⟩
  · exact .inl h2
  · have hk : k < a.heap.size := by
      rcases Nat.lt_or_ge k a.heap.size with hlt | hge
      · exact hlt
      · rw [Array.getElem?_eq_none hge] at hh; cases hh
    exact .inr ⟨k, cap, cur, hv, h3, by rw [g.block k hk]; exact hh, r⟩

theorem Grew.below {a b c : World} {B : Nat} {v : Value} (h : Below B a b) (g : Grew b c v) (hB : B ≤ b.heap.size) (hv : ∀ k, v.ownBlock = some k → B ≤ k) : Below B a c := h.grown g hB hv

/-- append(s, x) at a slice of ints of the call's own; x lies in a block that was just made -/
theorem push_int {ops : Array Oper} {rest : List Oper} {o : Oper} {a : Act} {Q : Exit → Act → World → Prop} (hgd : o.guard = none) (s x : Operand)
    (ho : o.op = .call { callee := .builtin .append, args := #[s, x], argTypes := #[22, 22] })
    (W : World) (B : Nat) (v : Value) (xs : List Int) (hs : a.eval s = v) (u : Int) (hx : a.eval x = .slice (some ⟨W.heap.size, 0, none⟩) 1 1)
    (hown : Own W B 3 v (ints xs)) (hl : xs.length < 1000000) (hb : B ≤ W.heap.size)
    (h : ∀ v' w', Own w' B 3 v' (ints (xs ++ [u])) → Grew W w' v → Stems W v v' → wpList Try.prog ops Q rest (a.put o.dst v') w') :
    wpList Try.prog ops Q (o :: rest) a (W.alloc (.cells #[.int .i64 u] 3)) := by
  obtain ⟨i0, hi, hz0, hz1, hz2⟩ := info_parts info_int
  have hlen : (ints xs).length = xs.length := by simp [ints]
  have hown' : (W.alloc (.cells #[.int .i64 u] 3)).ownsRow B 3 1 v xs.length (ints xs) := by rw [← hlen]; exact hown.alloc _
  refine wpList_append_own_at _ hgd s x _ ho B 3 i0 _ 1 8 Try.underlying22 hi hz0 hz1 hz2 rfl (by decide) v xs.length (ints xs) hs hown' ⟨W.heap.size, 0, none⟩ 1 1 [.int .i64 u] hx rfl ?_ ?_ (by unfold maxLen; omega) (by omega) (by simp; omega) ?_
  · intro j q hj
    match j, hj with
    | 0, hj => simp at hj; subst hj; simp [Addr.add]
  · intro q hq; simp at hq; subst hq; rfl
  · intro v' w' h1 h2 _ h3
    have hl1 : (ints (xs ++ [u])).length = xs.length + 1 := by simp [ints]
    refine h v' w' ?_ ?_ ?_
    · unfold Own; rw [hl1]; simpa [ints] using h1
    · exact ⟨h2.os, h2.tape, h2.output, Nat.le_trans (by simp) h2.size, fun k hk hne => (h2.block k (by simp; omega) hne).trans (Below.heap_alloc _ _ _ hk)⟩
    · rcases h3 with h3 | h3
      · exact .inl h3
      · exact .inr ⟨_, h3, by simp⟩

theorem run_append_nil {P : Program} (w : World) (base : Nat) (t ty e : TypeId) (i : TypeInfo) (size : Nat) (ht : P.underlying t = some (.slice e)) (hi : P.info? e = some i)
    (v : Value) (n : Nat) (xs : List Value) (hown : w.ownsRow base e size v n xs) (c : Nat) : (Builtin.append_ #[t, t] ty #[v, .slice none 0 c]).run P w = .ok v w := by
  rcases hown.2 with ⟨rfl, _⟩ | ⟨g, cap, cur, rfl, _, _, hnc, _⟩
  · simp [Builtin.append_, run_underlying ht, sizeOf, typeInfo, hi, Builtin.lenOf, Builtin.firstCells]
  · simp [Builtin.append_, run_underlying ht, sizeOf, typeInfo, hi, Builtin.lenOf, Builtin.firstCells, hnc, storeCells]

theorem wp_append_nil {P : Program} {ops : Array Oper} {rest : List Oper} {o : Oper} {a : Act} {Q : Exit → Act → World → Prop} (w : World) (hgd : o.guard = none) (s x : Operand) (t : TypeId)
    (ho : o.op = .call { callee := .builtin .append, args := #[s, x], argTypes := #[t, t] })
    (base : Nat) (e : TypeId) (i : TypeInfo) (size : Nat) (ht : P.underlying t = some (.slice e)) (hi : P.info? e = some i)
    (v : Value) (n : Nat) (xs : List Value) (hs : a.eval s = v) (hown : w.ownsRow base e size v n xs) (c : Nat) (hx : a.eval x = .slice none 0 c)
    (h : wpList P ops Q rest (a.put o.dst v) w) : wpList P ops Q (o :: rest) a w := by
  refine wpList_plain hgd fun K hK => ?_
  have hrun := run_append_nil (P := P) w base t o.type e i size ht hi v n xs hown c
  unfold Oper.wp execOp
  simp only [ho, resolve, invoke, builtin, Sem.run_bind, Sem.run_pure, Result.andThen_ok, List.map_toArray, List.map_cons, List.map_nil, hs, hx, hrun]
  exact hK _ _ h

/-- append(s, x...) at a slice of one-cell elements of the call's own; x is a slice that lies in memory, nil or empty among others -/
theorem push_row {P : Program} {ops : Array Oper} {rest : List Oper} {o : Oper} {a : Act} {Q : Exit → Act → World → Prop} (hgd : o.guard = none) (s x : Operand) (t e : TypeId) (z : Value) (bytes : Nat)
    (ho : o.op = .call { callee := .builtin .append, args := #[s, x], argTypes := #[t, t] }) (ht : P.underlying t = some (.slice e))
    (hinfo : (P.info? e).map (fun i => (i.zero, i.size, i.bytes)) = some (some z, 1, bytes)) (hz1 : z.cells.size = 1) (hby : bytes ≤ 64)
    (W : World) (B : Nat) (v : Value) (xs : List Value) (hs : a.eval s = v) (A : Option Addr) (m c : Nat) (news : List Value) (hx : a.eval x = .slice A m c) (hm : m = news.length) (hr : Row W A news) (h1 : ∀ u ∈ news, u.oneCell' = true)
    (hown : Own W B e v xs) (hl : xs.length + m < 2000000000) (hb : B ≤ W.heap.size)
    (h : ∀ v' w', Own w' B e v' (xs ++ news) → Grew W w' v → Stems W v v' → wpList P ops Q rest (a.put o.dst v') w') :
    wpList P ops Q (o :: rest) a W := by
  obtain ⟨i0, hi, hz0, hz1', hz2⟩ := info_parts hinfo
  rcases A with _ | ad
  · have hn : news = [] := by
      rcases news with _ | ⟨u, l⟩
      · rfl
      · obtain ⟨b, off, hh, _⟩ := hr (by simp)
        cases hh
    subst hn
    simp only [List.length_nil] at hm
    subst hm
    refine wp_append_nil W hgd s x t ho B e i0 1 ht hi v xs.length xs hs hown c hx ?_
    refine h v W (by rw [List.append_nil]; exact hown) ⟨rfl, rfl, rfl, Nat.le_refl _, fun _ _ _ => rfl⟩ (.inl rfl)
  · refine wpList_append_own_at _ hgd s x _ ho B e i0 z 1 bytes ht hi hz0 hz1' hz2 hz1 (by decide) v xs.length xs hs hown ad m c news hx (by omega) ?_ h1 (by unfold maxLen; omega) ?_ hb ?_
    · intro j q hj
      obtain ⟨b, off, hh, _, h3⟩ := hr.addr (List.getElem?_eq_some_iff.1 hj).1
      cases hh
      have := h3 j q hj
      unfold Addr.add
      split
      · next h0 => subst h0; simpa using this
      · exact this
    · calc (xs.length + m) * bytes ≤ 2000000000 * 64 := Nat.mul_le_mul (by omega) hby
        _ ≤ _ := by decide
    · intro v' w' h2 h3 _ h4
      have hl1 : (xs ++ news).length = xs.length + m := by rw [List.length_append, hm]
      refine h v' w' ?_ h3 ?_
      · unfold Own; rw [hl1]; exact h2
      · rcases h4 with h4 | h4
        · exact .inl h4
        · exact .inr ⟨_, h4, Nat.le_refl _⟩

theorem Own.row {w : World} {B : Nat} {e : TypeId} {A : Option Addr} {n c : Nat} {xs : List Value} (h : Own w B e (.slice A n c) xs) : Row w A xs := by
  obtain ⟨A', c', hv, _, _, hr⟩ := h.slice
  cases hv
  exact hr

/-- a slice of ints in new memory is returned; nothing that was there has turned -/
def GivesI (w : World) (out : List Int) (en : Ending) (w' : World) : Prop :=
  ∃ A c, en = .returned (.slice A out.length c) ∧ out.length ≤ c ∧ c ≤ maxLen ∧ Own w' w.heap.size 3 (.slice A out.length c) (ints out) ∧ Ext w w'

theorem gives_own {w w' : World} {v : Value} {out : List Int} (h : Own w' w.heap.size 3 v (ints out)) (e : Ext w w') : GivesI w out (.returned v) w' := by
  have hl : (ints out).length = out.length := by simp [ints]
  obtain ⟨A, c, hv, h1, h2, _⟩ := h.slice
  rw [hl] at hv h1
  subst hv
  exact ⟨A, c, rfl, h1, h2, h, e⟩
theorem gives_nil (w : World) : GivesI w [] (.returned (.slice none 0 0)) w := gives_own (Own.nil _ _ _) (Below.refl _ _)

/-- two slices of the call's own lie in different blocks -/
def Apart (v u : Value) : Prop := ∀ q, v.ownBlock = some q → u.ownBlock ≠ some q
theorem Apart.symm {v u : Value} (h : Apart v u) : Apart u v := fun q h1 h2 => h q h2 h1
theorem Apart.nil (u : Value) : Apart (.slice none 0 0) u := fun q h => by simp [Value.ownBlock] at h
theorem Apart.stems {a : World} {v v' u : Value} {B : Nat} {e : TypeId} {xs : List Value} (h : Apart v u) (s : Stems a v v') (ho : Own a B e u xs) : Apart v' u := by
  intro q hq hu
  rcases s with s | ⟨g, s, hg⟩
  · exact h q (by rw [← s]; exact hq) hu
  · have := (ho.lt q hu).2
    rw [s] at hq
    cases hq
    omega

def GivesI2 (w : World) (o1 o2 : List Int) (en : Ending) (w' : World) : Prop :=
  ∃ A c A' c', en = .returned (.tuple #[.slice A o1.length c, .slice A' o2.length c']) ∧ Own w' w.heap.size 3 (.slice A o1.length c) (ints o1) ∧ Own w' w.heap.size 3 (.slice A' o2.length c') (ints o2) ∧ Ext w w'
theorem gives_own2 {w w' : World} {v u : Value} {o1 o2 : List Int} (h : Own w' w.heap.size 3 v (ints o1)) (h' : Own w' w.heap.size 3 u (ints o2)) (e : Ext w w') : GivesI2 w o1 o2 (.returned (.tuple #[v, u])) w' := by
  have hl : (ints o1).length = o1.length := by simp [ints]
  have hl' : (ints o2).length = o2.length := by simp [ints]
  obtain ⟨A, c, hv, h1, h2, _⟩ := h.slice
  obtain ⟨A', c', hv', h1', h2', _⟩ := h'.slice
  rw [hl] at hv h1
  rw [hl'] at hv' h1'
  subst hv hv'
  exact ⟨A, c, A', c', rfl, h, h', e⟩

/-- a view in new memory and an error are returned -/
def GivesV (w : World) (r : Int × List Int × Int) (en : Ending) (w' : World) : Prop :=
  ∃ A c, en = .returned (.tuple #[.agg #[.int .i64 r.1, .slice A r.2.1.length c], .int .i64 r.2.2]) ∧ r.2.1.length ≤ c ∧ c ≤ maxLen ∧ Own w' w.heap.size 3 (.slice A r.2.1.length c) (ints r.2.1) ∧ Ext w w'
theorem gives_v {w w' : World} {r : Int × List Int × Int} {num err : Int} {out : List Int} {v : Value} (hr : r = (num, out, err)) (h : Own w' w.heap.size 3 v (ints out)) (e : Ext w w') : GivesV w r (.returned (.tuple #[.agg #[.int .i64 num, v], .int .i64 err])) w' := by
  subst hr
  have hl : (ints out).length = out.length := by simp [ints]
  obtain ⟨A, c, hv, h1, h2, _⟩ := h.slice
  rw [hl] at hv h1
  subst hv
  exact ⟨A, c, rfl, h1, h2, h, e⟩
theorem Own.set {w : World} {B : Nat} {e : TypeId} {v : Value} {xs : List Value} (h : Own w B e v xs) {p : Addr} (hp : ∀ k, v.ownBlock = some k → k ≠ p.block) (u : Value) : Own (w.setCell p u) B e v xs := by
  obtain ⟨h1, h2⟩ := h
  refine ⟨h1, ?_⟩
  rcases h2 with h2 | ⟨k, cap, cur, hv, h3, hh, r⟩
  · exact .inl h2
  · subst hv
    exact .inr ⟨k, cap, cur, rfl, h3, by rw [Below.heap_setCell _ _ _ _ (hp k rfl)]; exact hh, r⟩
theorem Own.base {w : World} {B B' : Nat} {e : TypeId} {v : Value} {xs : List Value} (h : Own w B e v xs) (hb : B' ≤ B) : Own w B' e v xs := by
  obtain ⟨h1, h2⟩ := h
  refine ⟨h1, ?_⟩
  rcases h2 with h2 | ⟨k, cap, cur, hv, h3, r⟩
  · exact .inl h2
  · exact .inr ⟨k, cap, cur, hv, Nat.le_trans hb h3, r⟩
theorem Ext.set {a w : World} (h : Ext a w) {p : Addr} (hp : a.heap.size ≤ p.block) (u : Value) : Ext a (w.setCell p u) := Below.setCell h hp u
end Go.Proofs.Ytagmocofmedmjaa
