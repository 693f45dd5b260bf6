/- Boxes that a call builds by append: the ballots' cuts lie apart from the box's own block. -/
import Derived.Test.YtagmocofmedmjaaVote4
import Derived.Deep.AppendLies
namespace Go.Proofs.Ytagmocofmedmjaa
open Go.RowKit

/-- the cut of b lies in memory, apart from v's own block -/
def Good (w : World) (v : Value) (b : Bal) : Prop := Row w b.A (ints b.cut) ∧ b.cut.length ≤ b.c ∧ b.c ≤ maxLen ∧ ∀ p q, b.cut ≠ [] → b.A = some p → v.ownBlock = some q → q ≠ p.block
/-- v is a box that the call has built -/
def OB (w : World) (B : Nat) (v : Value) (bs : List Bal) : Prop := OwnB w B v bs ∧ ∀ b ∈ bs, Good w v b
theorem Good.ext {w w' : World} {v : Value} {b : Bal} (h : Good w v b) (e : Ext w w') : Good w' v b := ⟨h.1.ext e, h.2⟩
theorem OB.ext {w w' : World} {B : Nat} {v : Value} {bs : List Bal} (h : OB w B v bs) (e : Ext w w') : OB w' B v bs := ⟨h.1.ext e, fun b hb => (h.2 b hb).ext e⟩
theorem OB.nil (w : World) (B : Nat) : OB w B (.slice none 0 0) [] := ⟨OwnB.nil _ _, fun b hb => by simp at hb⟩
theorem OB.slice {w : World} {B : Nat} {v : Value} {bs : List Bal} (h : OB w B v bs) : ∃ A c, v = .slice A bs.length c ∧ bs.length ≤ c ∧ c ≤ maxLen ∧ Box w A bs := by
  obtain ⟨A, c, hv, h1, h2, h3⟩ := h.1.slice
  exact ⟨A, c, hv, h1, h2, h3, fun b hb => ⟨(h.2 b hb).1, (h.2 b hb).2.1, (h.2 b hb).2.2.1⟩⟩
theorem row_block {w : World} {A : Option Addr} {xs : List Int} {p : Addr} (h : Row w A (ints xs)) (hne : xs ≠ []) (hp : A = some p) : p.block < w.heap.size := by
  obtain ⟨b, off, h1, h2, _⟩ := h (by cases xs with | nil => exact absurd rfl hne | cons x l => simp [ints])
  rw [hp] at h1; cases h1; exact h2
theorem good_old {w wr : World} {v : Value} {b : Bal} {out : List Bal} {B : Nat} (h : Row w b.A (ints b.cut)) (h1 : b.cut.length ≤ b.c) (h2 : b.c ≤ maxLen) (hw : w.heap.size ≤ B) (e : Ext w wr) (ho : OB wr B v out) : Good wr v b := by
  refine ⟨h.ext e, h1, h2, fun p q hne hp hq => ?_⟩
  have := row_block h hne hp
  have := (ho.1.lt q hq).1
  omega
theorem good_new {wc w1 : World} {v : Value} {A : Option Addr} {c : Nat} {cut : List Int} {B : Nat} {out : List Bal} (m : Int) (h : Own w1 wc.heap.size 3 (.slice A cut.length c) (ints cut)) (h1 : cut.length ≤ c) (h2 : c ≤ maxLen) (ho : OB wc B v out) : Good w1 v ⟨m, A, c, cut⟩ := by
  refine ⟨h.row, h1, h2, fun p q hne hp hq => ?_⟩
  have h3 := (ho.1.lt q hq).2
  simp only at hp hne
  subst hp
  have h4 := (h.lt p.block (by
    obtain ⟨_, h5⟩ := h
    rcases h5 with ⟨h5, _⟩ | ⟨g, cap, cur, h5, _⟩
    · simp only [Value.slice.injEq, reduceCtorEq, false_and] at h5
    · simp only [Value.slice.injEq, Option.some.injEq] at h5
      rw [h5.1]; rfl)).1
  omega
theorem row_one (w : World) (b : Bal) : ∀ j u, (balV [b])[j]? = some u → (w.alloc (.cells #[.int .i64 b.m, .slice b.A b.cut.length b.c] 44)).cell? ((⟨w.heap.size, 0, none⟩ : Addr).add j) = some u := by
  refine World.news_of_block (cs := #[.int .i64 b.m, .slice b.A b.cut.length b.c]) (t := 44) (fr := (0, 0)) ?_
  show (w.heap.push _)[w.heap.size]? = _
  simp
theorem good_push {W w' : World} {v v' : Value} {b : Bal} (h : Good W v b) (g : Grew W w' v) (hs : v'.ownBlock = v.ownBlock ∨ ∃ k, v'.ownBlock = some k ∧ W.heap.size ≤ k) : Good w' v' b := by
  refine ⟨?_, h.2.1, h.2.2.1, fun p q hne hp hq => ?_⟩
  · by_cases hne : b.cut = []
    · rw [hne]; exact Row.nil _ _
    · exact h.1.grew g fun q p hp hq => h.2.2.2 p q hne hp hq
  · rcases hs with hs | ⟨k, hk, hle⟩
    · exact h.2.2.2 p q hne hp (hs ▸ hq)
    · have := row_block h.1 hne hp
      rw [hk] at hq; cases hq; omega

/-- append(s, b) at a box of the call's own -/
theorem wp_push_b1 {o : Oper} {a : Act} {K : Act → World → Prop} {Q : Exit → Act → World → Prop} (s x : Operand)
    (ho : o.op = .call { callee := .builtin .append, args := #[s, x], argTypes := #[42, 42] })
    (w0 : World) (B : Nat) (v : Value) (bs : List Bal) (hs : a.eval s = v) (b : Bal) (c : Nat) (hx : a.eval x = .slice (some ⟨w0.heap.size, 0, none⟩) 1 c)
    (hob : OB w0 B v bs) (hg : Good w0 v b) (hl : bs.length ≤ 2000) (hB : B ≤ w0.heap.size)
    (h : ∀ v' w', OB w' B v' (bs ++ [b]) → (∀ z : World, z.heap.size = B → Ext z w0 → Ext z w') → Grew (w0.alloc (.cells #[.int .i64 b.m, .slice b.A b.cut.length b.c] 44)) w' v → Stems (w0.alloc (.cells #[.int .i64 b.m, .slice b.A b.cut.length b.c] 44)) v v' → K (a.put o.dst v') w') :
    Oper.wp Try.prog o a (w0.alloc (.cells #[.int .i64 b.m, .slice b.A b.cut.length b.c] 44)) K Q := by
  obtain ⟨i0, hi, hz0, hz1', hz2⟩ := info_parts info_bal
  have e0 := Ext.new w0 (.cells #[.int .i64 b.m, .slice b.A b.cut.length b.c] 44)
  have hob' := hob.ext e0
  refine wp_append_lies _ s x _ ho B _ i0 _ 2 32 Try.underlying42 hi hz0 hz1' hz2 rfl (by decide) v bs.length (balV bs) hs hob'.1 ⟨w0.heap.size, 0, none⟩ 1 c (balV [b]) hx (by rw [balV_len]; rfl) (row_one w0 b) (balV_one _) (by decide) (by unfold maxLen; omega) ?_ (by simp; omega) _ rfl ?_
  · calc (bs.length + 1) * 32 ≤ 2001 * 32 := Nat.mul_le_mul (by omega) (Nat.le_refl _)
      _ ≤ _ := by decide
  · intro g cap w' h2 h3 h4 h5
    have hl1 : (bs ++ [b]).length = bs.length + 1 := by simp
    have hst : (Value.slice (some ⟨g, 0, none⟩) (bs.length + 1) cap).ownBlock = v.ownBlock ∨ ∃ k, (Value.slice (some ⟨g, 0, none⟩) (bs.length + 1) cap).ownBlock = some k ∧ (w0.alloc (.cells #[.int .i64 b.m, .slice b.A b.cut.length b.c] 44)).heap.size ≤ k := by
      rcases h4 with h4 | h4
      · exact .inl (by rw [h4]; rfl)
      · exact .inr ⟨g, rfl, Nat.le_of_eq h4.symm⟩
    refine h _ w' ⟨?_, fun q hq => ?_⟩ (fun z hz ez => ?_) h3 hst
    · unfold OwnB; rw [hl1, balV_append]; exact h2
    · rcases List.mem_append.1 hq with hq | hq
      · exact good_push (hob'.2 q hq) h3 hst
      · rw [List.mem_singleton.1 hq]; exact good_push (hg.ext e0) h3 hst
    · subst hz
      exact Grew.below (v := v) (ez.trans e0) h3 (by simp; exact Nat.le_succ_of_le hB) (fun q hq => (hob.1.lt q hq).1)
theorem push_b1 {ops : Array Oper} {rest : List Oper} {o : Oper} {a : Act} {Q : Exit → Act → World → Prop} (hgd : o.guard = none) (s x : Operand)
    (ho : o.op = .call { callee := .builtin .append, args := #[s, x], argTypes := #[42, 42] })
    (w0 : World) (B : Nat) (v : Value) (bs : List Bal) (hs : a.eval s = v) (b : Bal) (c : Nat) (hx : a.eval x = .slice (some ⟨w0.heap.size, 0, none⟩) 1 c)
    (hob : OB w0 B v bs) (hg : Good w0 v b) (hl : bs.length ≤ 2000) (hB : B ≤ w0.heap.size)
    (h : ∀ v' w', OB w' B v' (bs ++ [b]) → (∀ z : World, z.heap.size = B → Ext z w0 → Ext z w') → Grew (w0.alloc (.cells #[.int .i64 b.m, .slice b.A b.cut.length b.c] 44)) w' v → Stems (w0.alloc (.cells #[.int .i64 b.m, .slice b.A b.cut.length b.c] 44)) v v' → wpList Try.prog ops Q rest (a.put o.dst v') w') :
    wpList Try.prog ops Q (o :: rest) a (w0.alloc (.cells #[.int .i64 b.m, .slice b.A b.cut.length b.c] 44)) :=
  wpList_plain hgd fun _ hK => wp_push_b1 s x ho w0 B v bs hs b c hx hob hg hl hB fun v' w' h1 h2 h3 h4 => hK _ _ (h v' w' h1 h2 h3 h4)
theorem step_push_b1 {ops : Array Oper} {o : Oper} {a : Act} {K : Act → World → Prop} {Q : Exit → Act → World → Prop} {E : Prop} (hgd : o.guard = none) (s x : Operand)
    (ho : o.op = .call { callee := .builtin .append, args := #[s, x], argTypes := #[42, 42] })
    (w0 : World) (B : Nat) (v : Value) (bs : List Bal) (hs : a.eval s = v) (b : Bal) (c : Nat) (hx : a.eval x = .slice (some ⟨w0.heap.size, 0, none⟩) 1 c)
    (hob : OB w0 B v bs) (hg : Good w0 v b) (hl : bs.length ≤ 2000) (hB : B ≤ w0.heap.size)
    (h : ∀ v' w', OB w' B v' (bs ++ [b]) → (∀ z : World, z.heap.size = B → Ext z w0 → Ext z w') → Grew (w0.alloc (.cells #[.int .i64 b.m, .slice b.A b.cut.length b.c] 44)) w' v → Stems (w0.alloc (.cells #[.int .i64 b.m, .slice b.A b.cut.length b.c] 44)) v v' → K (a.put o.dst v') w') :
    if Region.wanted o (yielded ops a.tmps) = true then Oper.wp Try.prog o a (w0.alloc (.cells #[.int .i64 b.m, .slice b.A b.cut.length b.c] 44)) K Q else E := by
  have hw : Region.wanted o (yielded ops a.tmps) = true := by simp [Region.wanted, hgd]
  rw [if_pos hw]
  exact wp_push_b1 s x ho w0 B v bs hs b c hx hob hg hl hB h

/-- Cast's answer: a box and an error -/
def GivesCast (w : World) (r : Ps × Int) (en : Ending) (w' : World) : Prop :=
  ∃ A c bs, en = .returned (.tuple #[.slice A (List.length bs) c, .int .i64 r.2]) ∧ bs.length ≤ c ∧ c ≤ maxLen ∧ Hid (prs bs = r.1) ∧ Hid (Box w' A bs) ∧ Ext w w'
theorem gives_err {w w' : World} {r : Ps × Int} {e : Int} (hr : r = ([], e)) (h : Ext w w') : GivesCast w r (.returned (.tuple #[.slice none 0 0, .int .i64 e])) w' := by
  subst hr; exact ⟨none, 0, [], rfl, Nat.le_refl _, Nat.zero_le _, Lib.hid rfl, Lib.hid (Box.nil _ _), h⟩
theorem gives_cast {w w' : World} {r : Ps × Int} {v : Value} {bs : List Bal} {B : Nat} (hr : r = (prs bs, 0)) (ho : OB w' B v bs) (h : Ext w w') : GivesCast w r (.returned (.tuple #[v, .int .i64 0])) w' := by
  subst hr
  obtain ⟨A, c, rfl, h1, h2, h3⟩ := ho.slice
  exact ⟨A, c, bs, rfl, h1, h2, Lib.hid rfl, Lib.hid h3, h⟩
theorem cast_box {num : Int} {xs : List Int} {ps : Ps} {m : Int} {ct : List Int} (h : boxB num xs ps = false) : castF num xs ps m ct = ([], 1) := by rw [castF, if_pos (.inl h)]
theorem cast_cut {num : Int} {xs : List Int} {ps : Ps} {m : Int} {ct : List Int} (h : applF num xs ct = false) : castF num xs ps m ct = ([], 1) := by rw [castF, if_pos (.inr h)]
theorem cast_who {num : Int} {xs : List Int} {ps : Ps} {m : Int} {ct : List Int} (h : boxB num xs ps = true) (h1 : applF num xs ct = true) (h2 : hasB xs m = false) : castF num xs ps m ct = ([], 6) := by
  rw [castF, if_neg (by rw [h, h1]; simp), if_pos h2]
theorem cast_dup {num : Int} {xs : List Int} {ps : Ps} {m : Int} {ct : List Int} (h : boxB num xs ps = true) (h1 : applF num xs ct = true) (h2 : hasB xs m = true) (h3 : votedB ps m = true) : castF num xs ps m ct = ([], 7) := by
  rw [castF, if_neg (by rw [h, h1]; simp), if_neg (by rw [h2]; simp), if_pos h3]
theorem cast_ok {num : Int} {xs : List Int} {ps : Ps} {m : Int} {ct : List Int} (h : boxB num xs ps = true) (h1 : applF num xs ct = true) (h2 : hasB xs m = true) (h3 : votedB ps m = false) : castF num xs ps m ct = (insP ps m ct, 0) := by
  rw [castF, if_neg (by rw [h, h1]; simp), if_neg (by rw [h2]; simp), if_neg (by rw [h3]; simp)]
theorem prs_snoc (bs : List Bal) (b : Bal) : prs (bs ++ [b]) = prs bs ++ [(b.m, b.cut)] := by simp [prs, Bal.pr]
end Go.Proofs.Ytagmocofmedmjaa
