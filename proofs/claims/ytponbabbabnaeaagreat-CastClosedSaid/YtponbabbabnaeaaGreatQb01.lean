/- Part 1 of the proof: contracts of functions that the statement reaches. Conditions: as each theorem says. -/
import Derived.Test.YtponbabbabnaeaaGreatProg
import Derived.WalkKit
import Derived.WalkLawsBesides
import Derived.Lib.Hide
import Derived.Deep.QuietTactic
import Derived.BigQuiet
import Derived.Maps.AppendAt
import Derived.Deep.AppendLies
import Derived.Laws.BitsAllLaws
import Derived.Deep.LoopGhost
namespace Go.Proofs.YtponbabbabnaeaaGreat
theorem hJ {p : Prop} (h : p) : Go.RowKit.Hid p := Go.Lib.hid h
theorem l1 {α : Type} {l : List α} {i : Nat} {a : α} : l.toArray.setIfInBounds i a = (l.set i a).toArray := List.setIfInBounds_toArray ..
theorem l2 {α : Type} {a b : α} {l : List α} : (a :: l).set 0 b = b :: l := rfl
theorem l3 {α : Type} {a b : α} {l : List α} {n : Nat} : (a :: l).set (n + 1) b = a :: l.set n b := rfl
end Go.Proofs.YtponbabbabnaeaaGreat
namespace Go.Proofs.YtponbabbabnaeaaGreat
open Go.RowKit
def Row (w : World) (A : Option Addr) (xs : List Value) : Prop :=
 xs ≠ [] → ∃ b off, A = some ⟨b, off, none⟩ ∧ b < w.heap.size ∧ ∀ j v, xs[j]? = some v → w.cell? ⟨b, off + j, none⟩ = some v
def ints (xs : List Int) : List Value := xs.map (Value.int .i64)
abbrev Ext (w w' : World) : Prop := Below w.heap.size w w'
theorem Row.nil (w : World) (A : Option Addr) : Row w A [] := fun h => absurd rfl h
theorem Row.ext {w w' : World} {A : Option Addr} {xs : List Value} (h : Row w A xs) (e : Ext w w') : Row w' A xs := fun hx => by
 obtain ⟨b, off, h1, h2, h3⟩ := h hx
 exact ⟨b, off, h1, Nat.lt_of_lt_of_le h2 e.size, fun j v hv => (e.cell (p := ⟨b, off + j, none⟩) h2).trans (h3 j v hv)⟩
theorem Row.addr {w : World} {A : Option Addr} {xs : List Value} {k : Nat} (h : Row w A xs) (hk : k < xs.length) :
  ∃ b off, A = some ⟨b, off, none⟩ ∧ b < w.heap.size ∧ ∀ j v, xs[j]? = some v → w.cell? ⟨b, off + j, none⟩ = some v :=
 h (fun e => by rw [e] at hk; simp at hk)
theorem Row.at_ {w : World} {A : Option Addr} {xs : List Int} {k : Nat} (h : Row w A (ints xs)) (hk : k < xs.length) :
  ∃ b off x, A = some ⟨b, off, none⟩ ∧ w.cell? ⟨b, off + k, none⟩ = some (.int .i64 x) ∧ Hid (xs[k]? = some x) := by
 obtain ⟨b, off, h1, _, h3⟩ := h.addr (k := k) (by simpa [ints] using hk)
 exact ⟨b, off, xs[k], h1, h3 k _ (by simp [ints, List.getElem?_eq_getElem hk]), List.getElem?_eq_getElem hk⟩
theorem Row.cut {w : World} {A : Option Addr} {xs : List Value} {k c : Nat} (h : Row w A xs) (hc : xs.length ≤ c) : Row w (if c = k then A else A.map (·.add k)) (xs.drop k) := by
 intro hne
 have hk : k < xs.length := by
  rcases Nat.lt_or_ge k xs.length with h1 | h1
  ·exact h1
  ·exact absurd (List.drop_eq_nil_of_le h1) hne
 obtain ⟨b, off, rfl, hb, h3⟩ := h.addr hk
 rw [if_neg (by omega)]
 refine ⟨b, off + k, ?_, hb, fun j v hj => ?_⟩
 ·simp only [Option.map_some, Option.some.injEq]
  unfold Addr.add
  split <;> simp_all
 ·have := h3 (k + j) v (by rw [← hj, List.getElem?_drop])
  rw [Nat.add_assoc]; exact this
theorem Row.past {w : World} {A : Option Addr} {xs : List Value} {k : Nat} (h : xs.length ≤ k) : Row w A (xs.drop k) := by
 rw [List.drop_eq_nil_of_le h]; exact Row.nil _ _
theorem Row.map_ {w : World} {A : Option Addr} {xs : List Value} {k c : Nat} (h : Row w A xs) (hc : xs.length ≤ c) (hk : ¬ c = k) : Row w (A.map (·.add k)) (xs.drop k) := by
 have := h.cut (k := k) hc; rw [if_neg hk] at this; exact this
def Still (w w' : World) : Prop := ∃ n, w' = w.drewN n
theorem Still.refl (w : World) : Still w w := ⟨0, rfl⟩
theorem Still.trans {a b c : World} (h : Still a b) (k : Still b c) : Still a c := by
 obtain ⟨n, rfl⟩ := h; obtain ⟨m, rfl⟩ := k; exact ⟨n + m, by simp⟩
theorem Still.drewN {a b : World} (h : Still a b) (n : Nat) : Still a (b.drewN n) := h.trans ⟨n, rfl⟩
theorem Still.ext {w w' : World} (h : Still w w') : Ext w w' := by
 obtain ⟨n, rfl⟩ := h; exact ⟨rfl, rfl, rfl, Nat.le_refl _, fun _ _ => rfl⟩
theorem Still.row {w w' : World} (h : Still w w') {A : Option Addr} {xs : List Value} (r : Row w A xs) : Row w' A xs := r.ext h.ext
theorem Ext.trans {a b c : World} (h : Ext a b) (k : Ext b c) : Ext a c := Below.trans h (k.mono h.size)
theorem Ext.alloc {a b : World} (h : Ext a b) (o : Obj) : Ext a (b.alloc o) := Below.alloc h h.size o
theorem Ext.drewN {a b : World} (h : Ext a b) (n : Nat) : Ext a (b.drewN n) := ⟨h.os, h.tape, h.output, h.size, h.block⟩
theorem Ext.cell_new {w w1 : World} {cs : Array Value} {t : TypeId} (h : Ext (w.alloc (.cells cs t)) w1) (i : Nat) : w1.cell? ⟨w.heap.size, i, none⟩ = cs[i]? := by
 rw [h.cell (p := ⟨w.heap.size, i, none⟩) (by simp)]; simp
theorem Ext.frozen_new {w w1 : World} {cs : Array Value} {t : TypeId} (h : Ext (w.alloc (.cells cs t)) w1) (i : Nat) : w1.frozen? ⟨w.heap.size, i, none⟩ = false := by
 rw [h.frozen (p := ⟨w.heap.size, i, none⟩) (by simp)]; simp
theorem Ext.refl (w : World) : Ext w w := Below.refl _ _
theorem Ext.new (w : World) (o : Obj) : Ext w (w.alloc o) := (Below.refl _ _).alloc (Nat.le_refl _) _
theorem Ext.drew {a b : World} (h : Ext a b) : Ext a b.drew := ⟨h.os, h.tape, h.output, h.size, h.block⟩
theorem ret_int {k : IntKind} {a b : Int} (h : a = b) : Ending.returned (.int k a) = .returned (.int k b) := by rw [h]
theorem ret_bool {a b : Bool} (h : a = b) : Ending.returned (.bool a) = .returned (.bool b) := by rw [h]
end Go.Proofs.YtponbabbabnaeaaGreat
namespace Go.Proofs.YtponbabbabnaeaaGreat
open Go.RowKit
theorem info_int : (Tryz.prog.info? 3).map (fun i => (i.zero, i.size, i.bytes)) = some (some (.int .i64 0), 1, 8) := by kernel_rfl
theorem info_u8 : (Tryz.prog.info? 5).map (fun i => (i.zero, i.size, i.bytes)) = some (some (.int .u8 0), 1, 1) := by kernel_rfl
def Own (w : World) (B : Nat) (e : TypeId) (v : Value) (xs : List Value) : Prop := w.ownsRow B e 1 v xs.length xs
def Grew (a w' : World) (v : Value) : Prop := a.grownBy w' v.ownBlock
def Stems (a : World) (v v' : Value) : Prop := v'.ownBlock = v.ownBlock ∨ ∃ g, v'.ownBlock = some g ∧ a.heap.size ≤ g
theorem Own.nil (w : World) (B : Nat) (e : TypeId) : Own w B e (.slice none 0 0) [] := ⟨rfl, .inl ⟨rfl, rfl⟩⟩
theorem Own.slice {w : World} {B : Nat} {e : TypeId} {v : Value} {xs : List Value} (h : Own w B e v xs) :
  ∃ A c, v = .slice A xs.length c ∧ xs.length ≤ c ∧ c ≤ maxLen ∧ Row w A xs := by
 obtain ⟨_, h2⟩ := h
 rcases h2 with ⟨rfl, hn⟩ | ⟨g, cap, cur, rfl, _, hh, h3, h4, h5, h6⟩
 ·have : xs = [] := List.eq_nil_of_length_eq_zero hn
  subst this
  exact ⟨none, 0, rfl, Nat.le_refl _, Nat.zero_le _, Row.nil _ _⟩
 ·refine ⟨some ⟨g, 0, none⟩, cap, rfl, h3, h4, fun _ => ⟨g, 0, rfl, ?_, fun j u hj => ?_⟩⟩
  ·rcases Nat.lt_or_ge g w.heap.size with hlt | hge
   ·exact hlt
   ·rw [Array.getElem?_eq_none hge] at hh; cases hh
  ·have hc := cell_of_row w g (0 + j) cur e (0, 0) hh
   rw [hc]
   rw [← h6] at hj
   have hj' := (List.getElem?_eq_some_iff.1 hj).1
   simp only [List.getElem?_take] at hj
   split at hj
   ·simpa using hj
   ·cases hj
theorem Own.kept {a w' : World} {B : Nat} {e : TypeId} {v u : Value} {xs : List Value} (h : Own a B e v xs) (g : Grew a w' u) (hne : ∀ k, v.ownBlock = some k → u.ownBlock ≠ some k) : Own w' B e v xs := by
 obtain ⟨h1, h2⟩ := h
 refine ⟨h1, ?_⟩
 rcases h2 with h2 | ⟨k, cap, cur, hv, h3, hh, r⟩
 ·exact .inl h2
 ·subst hv
  have hk : k < a.heap.size := by
   rcases Nat.lt_or_ge k a.heap.size with hlt | hge
   ·exact hlt
   ·rw [Array.getElem?_eq_none hge] at hh; cases hh
  exact .inr ⟨k, cap, cur, rfl, h3, by rw [g.block k hk (fun e => hne k rfl e.symm)]; exact hh, r⟩
theorem Own.lt {w : World} {B : Nat} {e : TypeId} {v : Value} {xs : List Value} (h : Own w B e v xs) : ∀ k, v.ownBlock = some k → B ≤ k ∧ k < w.heap.size := by
 obtain ⟨_, h2⟩ := h
 rcases h2 with ⟨rfl, _⟩ | ⟨k, cap, cur, rfl, h3, hh, _⟩
 ·intro k hk; simp [Value.ownBlock] at hk
 ·intro k' hk
  simp only [Value.ownBlock, Option.some.injEq] at hk
  subst hk
  refine ⟨h3, ?_⟩
  rcases Nat.lt_or_ge k w.heap.size with hlt | hge
  ·exact hlt
  ·rw [Array.getElem?_eq_none hge] at hh; cases hh
theorem Own.ext {a w' : World} {B : Nat} {e : TypeId} {v : Value} {xs : List Value} (h : Own a B e v xs) (g : Ext a w') : Own w' B e v xs := by
 obtain ⟨h1, h2⟩ := h
 refine ⟨h1, ?_⟩
 rcases h2 with h2 | ⟨k, cap, cur, hv, h3, hh, r⟩
 ·exact .inl h2
 ·have hk : k < a.heap.size := by
   rcases Nat.lt_or_ge k a.heap.size with hlt | hge
   ·exact hlt
   ·rw [Array.getElem?_eq_none hge] at hh; cases hh
  exact .inr ⟨k, cap, cur, hv, h3, by rw [g.block k hk]; exact hh, r⟩
theorem Grew.below {a b c : World} {B : Nat} {v : Value} (h : Below B a b) (g : Grew b c v) (hB : B ≤ b.heap.size) (hv : ∀ k, v.ownBlock = some k → B ≤ k) : Below B a c := h.grown g hB hv
theorem push_int {ops : Array Oper} {rest : List Oper} {o : Oper} {a : Act} {Q : Exit → Act → World → Prop} (hgd : o.guard = none) (s x : Operand)
  (ho : o.op = .call { callee := .builtin .append, args := #[s, x], argTypes := #[44, 44] })
  (W : World) (B : Nat) (v : Value) (xs : List Int) (hs : a.eval s = v) (u : Int) (hx : a.eval x = .slice (some ⟨W.heap.size, 0, none⟩) 1 1)
  (hown : Own W B 3 v (ints xs)) (hl : xs.length < 1000000) (hb : B ≤ W.heap.size)
  (h : ∀ v' w', Own w' B 3 v' (ints (xs ++ [u])) → Grew W w' v → Stems W v v' → wpList Tryz.prog ops Q rest (a.put o.dst v') w') :
  wpList Tryz.prog ops Q (o :: rest) a (W.alloc (.cells #[.int .i64 u] 3)) := by
 obtain ⟨i0, hi, hz0, hz1, hz2⟩ := info_parts info_int
 have hlen : (ints xs).length = xs.length := by simp [ints]
 have hown' : (W.alloc (.cells #[.int .i64 u] 3)).ownsRow B 3 1 v xs.length (ints xs) := by rw [← hlen]; exact hown.alloc _
 refine wpList_append_own_at _ hgd s x _ ho B 3 i0 _ 1 8 Tryz.underlying44 hi hz0 hz1 hz2 rfl (by decide) v xs.length (ints xs) hs hown' ⟨W.heap.size, 0, none⟩ 1 1 [.int .i64 u] hx rfl ?_ ?_ (by unfold maxLen; omega) (by omega) (by simp; omega) ?_
 ·intro j q hj
  match j, hj with
  | 0, hj => simp at hj; subst hj; simp [Addr.add]
 ·intro q hq; simp at hq; subst hq; rfl
 ·intro v' w' h1 h2 _ h3
  have hl1 : (ints (xs ++ [u])).length = xs.length + 1 := by simp [ints]
  refine h v' w' ?_ ?_ ?_
  ·unfold Own; rw [hl1]; simpa [ints] using h1
  ·exact ⟨h2.os, h2.tape, h2.output, Nat.le_trans (by simp) h2.size, fun k hk hne => (h2.block k (by simp; omega) hne).trans (Below.heap_alloc _ _ _ hk)⟩
  ·rcases h3 with h3 | h3
   ·exact .inl h3
   ·exact .inr ⟨_, h3, by simp⟩
theorem run_append_nil {P : Program} (w : World) (base : Nat) (t ty e : TypeId) (i : TypeInfo) (size : Nat) (ht : P.underlying t = some (.slice e)) (hi : P.info? e = some i)
  (v : Value) (n : Nat) (xs : List Value) (hown : w.ownsRow base e size v n xs) (c : Nat) : (Builtin.append_ #[t, t] ty #[v, .slice none 0 c]).run P w = .ok v w := by
 rcases hown.2 with ⟨rfl, _⟩ | ⟨g, cap, cur, rfl, _, _, hnc, _⟩
 ·simp [Builtin.append_, run_underlying ht, sizeOf, typeInfo, hi, Builtin.lenOf, Builtin.firstCells]
 ·simp [Builtin.append_, run_underlying ht, sizeOf, typeInfo, hi, Builtin.lenOf, Builtin.firstCells, hnc, storeCells]
theorem wp_append_nil {P : Program} {ops : Array Oper} {rest : List Oper} {o : Oper} {a : Act} {Q : Exit → Act → World → Prop} (w : World) (hgd : o.guard = none) (s x : Operand) (t : TypeId)
  (ho : o.op = .call { callee := .builtin .append, args := #[s, x], argTypes := #[t, t] })
  (base : Nat) (e : TypeId) (i : TypeInfo) (size : Nat) (ht : P.underlying t = some (.slice e)) (hi : P.info? e = some i)
  (v : Value) (n : Nat) (xs : List Value) (hs : a.eval s = v) (hown : w.ownsRow base e size v n xs) (c : Nat) (hx : a.eval x = .slice none 0 c)
  (h : wpList P ops Q rest (a.put o.dst v) w) : wpList P ops Q (o :: rest) a w := by
 refine wpList_plain hgd fun K hK => ?_
 have hrun := run_append_nil (P := P) w base t o.type e i size ht hi v n xs hown c
 unfold Oper.wp execOp
 simp only [ho, resolve, invoke, builtin, Sem.run_bind, Sem.run_pure, Result.andThen_ok, List.map_toArray, List.map_cons, List.map_nil, hs, hx, hrun]
 exact hK _ _ h
theorem push_row {P : Program} {ops : Array Oper} {rest : List Oper} {o : Oper} {a : Act} {Q : Exit → Act → World → Prop} (hgd : o.guard = none) (s x : Operand) (t e : TypeId) (z : Value) (bytes : Nat)
  (ho : o.op = .call { callee := .builtin .append, args := #[s, x], argTypes := #[t, t] }) (ht : P.underlying t = some (.slice e))
  (hinfo : (P.info? e).map (fun i => (i.zero, i.size, i.bytes)) = some (some z, 1, bytes)) (hz1 : z.cells.size = 1) (hby : bytes ≤ 64)
  (W : World) (B : Nat) (v : Value) (xs : List Value) (hs : a.eval s = v) (A : Option Addr) (m c : Nat) (news : List Value) (hx : a.eval x = .slice A m c) (hm : m = news.length) (hr : Row W A news) (h1 : ∀ u ∈ news, u.oneCell' = true)
  (hown : Own W B e v xs) (hl : xs.length + m < 2000000000) (hb : B ≤ W.heap.size)
  (h : ∀ v' w', Own w' B e v' (xs ++ news) → Grew W w' v → Stems W v v' → wpList P ops Q rest (a.put o.dst v') w') :
  wpList P ops Q (o :: rest) a W := by
 obtain ⟨i0, hi, hz0, hz1', hz2⟩ := info_parts hinfo
 rcases A with _ | ad
 ·have hn : news = [] := by
   rcases news with _ | ⟨u, l⟩
   ·rfl
   ·obtain ⟨b, off, hh, _⟩ := hr (by simp)
    cases hh
  subst hn
  simp only [List.length_nil] at hm
  subst hm
  refine wp_append_nil W hgd s x t ho B e i0 1 ht hi v xs.length xs hs hown c hx ?_
  refine h v W (by rw [List.append_nil]; exact hown) ⟨rfl, rfl, rfl, Nat.le_refl _, fun _ _ _ => rfl⟩ (.inl rfl)
 ·refine wpList_append_own_at _ hgd s x _ ho B e i0 z 1 bytes ht hi hz0 hz1' hz2 hz1 (by decide) v xs.length xs hs hown ad m c news hx (by omega) ?_ h1 (by unfold maxLen; omega) ?_ hb ?_
  ·intro j q hj
   obtain ⟨b, off, hh, _, h3⟩ := hr.addr (List.getElem?_eq_some_iff.1 hj).1
   cases hh
   have := h3 j q hj
   unfold Addr.add
   split
   ·next h0 => subst h0; simpa using this
   ·exact this
  ·calc (xs.length + m) * bytes ≤ 2000000000 * 64 := Nat.mul_le_mul (by omega) hby
    _ ≤ _ := by decide
  ·intro v' w' h2 h3 _ h4
   have hl1 : (xs ++ news).length = xs.length + m := by rw [List.length_append, hm]
   refine h v' w' ?_ h3 ?_
   ·unfold Own; rw [hl1]; exact h2
   ·rcases h4 with h4 | h4
    ·exact .inl h4
    ·exact .inr ⟨_, h4, Nat.le_refl _⟩
theorem Own.row {w : World} {B : Nat} {e : TypeId} {A : Option Addr} {n c : Nat} {xs : List Value} (h : Own w B e (.slice A n c) xs) : Row w A xs := by
 obtain ⟨A', c', hv, _, _, hr⟩ := h.slice
 cases hv
 exact hr
def GivesI (w : World) (out : List Int) (en : Ending) (w' : World) : Prop :=
 ∃ A c, en = .returned (.slice A out.length c) ∧ out.length ≤ c ∧ c ≤ maxLen ∧ Own w' w.heap.size 3 (.slice A out.length c) (ints out) ∧ Ext w w'
theorem gives_own {w w' : World} {v : Value} {out : List Int} (h : Own w' w.heap.size 3 v (ints out)) (e : Ext w w') : GivesI w out (.returned v) w' := by
 have hl : (ints out).length = out.length := by simp [ints]
 obtain ⟨A, c, hv, h1, h2, _⟩ := h.slice
 rw [hl] at hv h1
 subst hv
 exact ⟨A, c, rfl, h1, h2, h, e⟩
def Apart (v u : Value) : Prop := ∀ q, v.ownBlock = some q → u.ownBlock ≠ some q
theorem Apart.symm {v u : Value} (h : Apart v u) : Apart u v := fun q h1 h2 => h q h2 h1
theorem Apart.nil (u : Value) : Apart (.slice none 0 0) u := fun q h => by simp [Value.ownBlock] at h
theorem Apart.stems {a : World} {v v' u : Value} {B : Nat} {e : TypeId} {xs : List Value} (h : Apart v u) (s : Stems a v v') (ho : Own a B e u xs) : Apart v' u := by
 intro q hq hu
 rcases s with s | ⟨g, s, hg⟩
 ·exact h q (by rw [← s]; exact hq) hu
 ·have := (ho.lt q hu).2
  rw [s] at hq
  cases hq
  omega
def GivesI2 (w : World) (o1 o2 : List Int) (en : Ending) (w' : World) : Prop :=
 ∃ A c A' c', en = .returned (.tuple #[.slice A o1.length c, .slice A' o2.length c']) ∧ Own w' w.heap.size 3 (.slice A o1.length c) (ints o1) ∧ Own w' w.heap.size 3 (.slice A' o2.length c') (ints o2) ∧ Ext w w'
theorem gives_own2 {w w' : World} {v u : Value} {o1 o2 : List Int} (h : Own w' w.heap.size 3 v (ints o1)) (h' : Own w' w.heap.size 3 u (ints o2)) (e : Ext w w') : GivesI2 w o1 o2 (.returned (.tuple #[v, u])) w' := by
 have hl : (ints o1).length = o1.length := by simp [ints]
 have hl' : (ints o2).length = o2.length := by simp [ints]
 obtain ⟨A, c, hv, h1, h2, _⟩ := h.slice
 obtain ⟨A', c', hv', h1', h2', _⟩ := h'.slice
 rw [hl] at hv h1
 rw [hl'] at hv' h1'
 subst hv hv'
 exact ⟨A, c, A', c', rfl, h, h', e⟩
def GivesV (w : World) (r : Int × List Int × Int) (en : Ending) (w' : World) : Prop :=
 ∃ A c, en = .returned (.tuple #[.agg #[.int .i64 r.1, .slice A r.2.1.length c], .int .i64 r.2.2]) ∧ r.2.1.length ≤ c ∧ c ≤ maxLen ∧ Own w' w.heap.size 3 (.slice A r.2.1.length c) (ints r.2.1) ∧ Ext w w'
theorem gives_v {w w' : World} {r : Int × List Int × Int} {num err : Int} {out : List Int} {v : Value} (hr : r = (num, out, err)) (h : Own w' w.heap.size 3 v (ints out)) (e : Ext w w') : GivesV w r (.returned (.tuple #[.agg #[.int .i64 num, v], .int .i64 err])) w' := by
 subst hr
 have hl : (ints out).length = out.length := by simp [ints]
 obtain ⟨A, c, hv, h1, h2, _⟩ := h.slice
 rw [hl] at hv h1
 subst hv
 exact ⟨A, c, rfl, h1, h2, h, e⟩
theorem Own.set {w : World} {B : Nat} {e : TypeId} {v : Value} {xs : List Value} (h : Own w B e v xs) {p : Addr} (hp : ∀ k, v.ownBlock = some k → k ≠ p.block) (u : Value) : Own (w.setCell p u) B e v xs := by
 obtain ⟨h1, h2⟩ := h
 refine ⟨h1, ?_⟩
 rcases h2 with h2 | ⟨k, cap, cur, hv, h3, hh, r⟩
 ·exact .inl h2
 ·subst hv
  exact .inr ⟨k, cap, cur, rfl, h3, by rw [Below.heap_setCell _ _ _ _ (hp k rfl)]; exact hh, r⟩
theorem Own.base {w : World} {B B' : Nat} {e : TypeId} {v : Value} {xs : List Value} (h : Own w B e v xs) (hb : B' ≤ B) : Own w B' e v xs := by
 obtain ⟨h1, h2⟩ := h
 refine ⟨h1, ?_⟩
 rcases h2 with h2 | ⟨k, cap, cur, hv, h3, r⟩
 ·exact .inl h2
 ·exact .inr ⟨k, cap, cur, hv, Nat.le_trans hb h3, r⟩
theorem Ext.set {a w : World} (h : Ext a w) {p : Addr} (hp : a.heap.size ≤ p.block) (u : Value) : Ext a (w.setCell p u) := Below.setCell h hp u
end Go.Proofs.YtponbabbabnaeaaGreat
namespace Go.Proofs.YtponbabbabnaeaaGreat
open Go.RowKit
def bytesV (bs : List UInt8) : List Value := bs.map fun b => .int .u8 (b.toNat : Int)
theorem bytesV_len (bs : List UInt8) : (bytesV bs).length = bs.length := by simp [bytesV]
theorem bytesV_app (a b : List UInt8) : bytesV (a ++ b) = bytesV a ++ bytesV b := by simp [bytesV]
theorem bytesV_drop (a : List UInt8) (k : Nat) : (bytesV a).drop k = bytesV (a.drop k) := by simp [bytesV]
theorem bytesV_one (bs : List UInt8) : ∀ u ∈ bytesV bs, u.oneCell' = true := by
 intro u hu; simp only [bytesV, List.mem_map] at hu; obtain ⟨x, _, rfl⟩ := hu; rfl
theorem Row.byte {w : World} {A : Option Addr} {bs : List UInt8} {k : Nat} (h : Row w A (bytesV bs)) (hk : k < bs.length) :
  ∃ b off, ∃ x : UInt8, A = some ⟨b, off, none⟩ ∧ w.cell? ⟨b, off + k, none⟩ = some (.int .u8 (x.toNat : Int)) ∧ Hid (bs[k]? = some x) := by
 obtain ⟨b, off, h1, _, h3⟩ := h.addr (k := k) (by simpa [bytesV] using hk)
 exact ⟨b, off, bs[k], h1, h3 k _ (by simp [bytesV, List.getElem?_eq_getElem hk]), List.getElem?_eq_getElem hk⟩
theorem push_one {P : Program} {ops : Array Oper} {rest : List Oper} {o : Oper} {a : Act} {Q : Exit → Act → World → Prop} (hgd : o.guard = none) (s x : Operand) (t e : TypeId) (z : Value) (bytes : Nat)
  (ho : o.op = .call { callee := .builtin .append, args := #[s, x], argTypes := #[t, t] }) (ht : P.underlying t = some (.slice e))
  (hinfo : (P.info? e).map (fun i => (i.zero, i.size, i.bytes)) = some (some z, 1, bytes)) (hz1 : z.cells.size = 1) (hby : bytes ≤ 64)
  (W : World) (B : Nat) (v : Value) (xs : List Value) (hs : a.eval s = v) (u : Value) (h1 : u.oneCell' = true) (hx : a.eval x = .slice (some ⟨W.heap.size, 0, none⟩) 1 1)
  (hown : Own W B e v xs) (hl : xs.length < 1900000000) (hb : B ≤ W.heap.size)
  (h : ∀ v' w', Own w' B e v' (xs ++ [u]) → Grew W w' v → Stems W v v' → wpList P ops Q rest (a.put o.dst v') w') :
  wpList P ops Q (o :: rest) a (W.alloc (.cells #[u] e)) := by
 refine push_row hgd s x t e z bytes ho ht hinfo hz1 hby (W.alloc (.cells #[u] e)) B v xs hs (some ⟨W.heap.size, 0, none⟩) 1 1 [u] hx rfl ?_ (by simpa using h1) (hown.ext (Ext.new _ _)) (by omega) (by simp; omega) ?_
 ·intro _
  refine ⟨W.heap.size, 0, rfl, by simp, fun j q hj => ?_⟩
  match j, hj with
  | 0, hj => simp at hj; subst hj; simp
 ·intro v' w' h2 h3 h4
  refine h v' w' h2 ⟨h3.os, h3.tape, h3.output, Nat.le_trans (by simp) h3.size, fun k hk hne => (h3.block k (by simp; omega) hne).trans (Below.heap_alloc _ _ _ hk)⟩ ?_
  rcases h4 with h4 | ⟨g, h4, h5⟩
  ·exact .inl h4
  ·exact .inr ⟨g, h4, by simp at h5; omega⟩
end Go.Proofs.YtponbabbabnaeaaGreat
namespace Go.Proofs.YtponbabbabnaeaaGreat
def U64 : Nat := 18446744073709551616
def encU (v : Nat) : List UInt8 := if h : v < 128 then [UInt8.ofNat v] else UInt8.ofNat (v % 128 + 128) :: encU (v / 128)
termination_by v
decreasing_by omega
theorem encU_lo {v : Nat} (h : v < 128) : encU v = [UInt8.ofNat v] := by rw [encU, dif_pos h]
theorem encU_hi {v : Nat} (h : 128 ≤ v) : encU v = UInt8.ofNat (v % 128 + 128) :: encU (v / 128) := by rw [encU, dif_neg (by omega)]
theorem encU_len : ∀ (f v : Nat), v < 128 ^ f → (encU v).length ≤ f + 1 := by
 intro f
 induction f with
 | zero => intro v h; simp at h; subst h; rw [encU_lo (by omega)]; simp
 | succ f ih =>
  intro v h
  by_cases hv : v < 128
  ·rw [encU_lo hv]; simp
  ·rw [encU_hi (by omega)]
   have := ih (v / 128) (by rw [Nat.pow_succ] at h; omega)
   simp; omega
theorem encU_len10 {v : Nat} (h : v < U64) : (encU v).length ≤ 11 := encU_len 10 v (Nat.lt_of_lt_of_le h (by decide))
theorem enc_step {pre : List UInt8} {full : List UInt8} {v : Nat} (h : 128 ≤ v) (e : pre ++ encU v = full) : (pre ++ [UInt8.ofNat (v % 128 + 128)]) ++ encU (v / 128) = full := by
 rw [← e, encU_hi h]; simp
theorem enc_end {pre : List UInt8} {full : List UInt8} {v : Nat} (h : v < 128) (e : pre ++ encU v = full) : pre ++ [UInt8.ofNat v] = full := by
 rw [← e, encU_lo h]
end Go.Proofs.YtponbabbabnaeaaGreat
namespace Go.Proofs.YtponbabbabnaeaaGreat
open Go.RowKit
theorem Grew.refl (a : World) (v : Value) : Grew a a v := ⟨rfl, rfl, rfl, Nat.le_refl _, fun _ _ _ => rfl⟩
theorem Stems.refl (a : World) (v : Value) : Stems a v v := .inl rfl
theorem Grew.size {a b : World} {v : Value} (h : Grew a b v) : a.heap.size ≤ b.heap.size := World.grownBy.size h
theorem Grew.trans {a b c : World} {v u : Value} (h : Grew a b v) (s : Stems a v u) (k : Grew b c u) : Grew a c v := by
 refine ⟨k.os.trans h.os, k.tape.trans h.tape, k.output.trans h.output, Nat.le_trans h.size k.size, fun i hi hne => ?_⟩
 refine (k.block i (Nat.lt_of_lt_of_le hi h.size) ?_).trans (h.block i hi hne)
 rcases s with s | ⟨g, s, hg⟩
 ·rw [s]; exact hne
 ·rw [s]; intro e; cases e; omega
theorem Stems.trans {a b : World} {v u t : Value} (h : Stems a v u) (hab : a.heap.size ≤ b.heap.size) (k : Stems b u t) : Stems a v t := by
 rcases k with k | ⟨g, k, hg⟩
 ·rcases h with h | ⟨g, h, hg⟩
  ·exact .inl (k.trans h)
  ·exact .inr ⟨g, k.trans h, hg⟩
 ·exact .inr ⟨g, k, by omega⟩
def Grows (w : World) (B : Nat) (v : Value) (bs : List UInt8) (en : Ending) (w' : World) : Prop :=
 ∃ v', en = .returned v' ∧ Own w' B 5 v' (bytesV bs) ∧ Grew w w' v ∧ Stems w v v'
theorem or128 (m : Fin 256) : bits .or .u8 (m.val : Int) 128 = ((m.val % 128 + 128 : Nat) : Int) := by revert m; decide +kernel
theorem or_128 (k : Nat) : bits .or .u8 ((k : Int) % 256) 128 = ((UInt8.ofNat (k % 128 + 128)).toNat : Int) := by
 have h := or128 ⟨k % 256, Nat.mod_lt _ (by decide)⟩
 have e : ((k % 256 : Nat) : Int) = (k : Int) % 256 := by omega
 simp only [e] at h
 rw [h, UInt8.toNat_ofNat']
 omega
theorem byte_lo {k : Nat} (_h : k < 128) : (k : Int) = ((UInt8.ofNat k).toNat : Int) := by rw [UInt8.toNat_ofNat']; omega
theorem u64_nat {k : Nat} (h : k < U64) : IntKind.u64.wrap (k : Int) = (k : Int) := IntWalk.u64_in _ (by unfold U64 at h; omega)
theorem u64_div {k : Nat} (h : k < U64) : IntKind.u64.wrap ((k : Int) / 128) = (k : Int) / 128 := IntWalk.u64_in _ (by unfold U64 at h; omega)
theorem byte_128 (k : Nat) : ((k : Int) % 128 + 128) = ((UInt8.ofNat (k % 128 + 128)).toNat : Int) := by rw [UInt8.toNat_ofNat']; omega
set_option maxRecDepth 100000 in
theorem putUint_any (B : Nat) (v : Value) (xs : List UInt8) (n : Nat) (w : World) (ho : Own w B 5 v (bytesV xs)) (hB : B ≤ w.heap.size) (hl : xs.length ≤ 1000000000) (hn : Hid (n < U64)) :
  Calls Tryz.prog 173 #[v, .int .u64 (n : Int)] w (Grows w B v (xs ++ encU n)) := by
 have HB := hJ (show (xs ++ encU n).length ≤ 1000000011 by have := encU_len10 hn.out; simp; omega)
 have HO := hJ ho
 clear ho; go_enter Tryz.func173, Tryz.ntmps173
 go_wp2; go_loopw [0, 1] (fun v' m wr => ∃ (k : Nat) (ys : List UInt8), m = .int .u64 (k : Int) ∧ Hid (ys ++ encU k = xs ++ encU n) ∧ Own wr B 5 v' (bytesV ys) ∧ Grew w wr v ∧ Stems w v v') (fun _ m _ => (intOf m).toNat)
 case atStart => exact ⟨n, xs, rfl, rfl, HO.out, Grew.refl _ _, Stems.refl _ _⟩
 case round =>
  obtain ⟨k, ys, rfl, HE, ho', hg', hs'⟩ := hrel
  have hyl : ys.length ≤ 1000000011 := by
   have h1 := HB.out; rw [← HE.out] at h1; simp at h1; omega
  have hB' : B ≤ wr.heap.size := Nat.le_trans hB hg'.size
  by_cases hlt : 128 ≤ k
  ·have hd : decide ((128 : Int) ≤ (k : Int)) = true := by simp; omega
   go_wp2_with (first
    | (at_builtin; refine push_one rfl (.tmp 7) (.tmp 11) _ 5 _ 1 rfl Tryz.underlying29 info_u8 rfl (by decide) wr B _ (bytesV ys) (by rfl) _ (by rfl) (by rfl) ho' (by rw [bytesV_len]; omega) hB' ?_; intro v1 w1 ho1 hg1 hs1))
   go_roundw
   case rel =>
    refine ⟨k / 128, ys ++ [UInt8.ofNat (k % 128 + 128)], by go_num, enc_step hlt HE.out, ?_, hg'.trans hs' hg1, hs'.trans hg'.size hs1⟩
    rw [or_128] at ho1; rw [bytesV_app]; exact ho1
   case measure => simp [intOf]; omega
  ·have hd : decide ((128 : Int) ≤ (k : Int)) = false := by simp; omega
   have hlt' : k < 128 := by omega
   go_wp2_with (first
    | (at_builtin; refine push_one rfl (.tmp 15) (.tmp 18) _ 5 _ 1 rfl Tryz.underlying29 info_u8 rfl (by decide) wr B _ (bytesV ys) (by rfl) _ (by rfl) (by rfl) ho' (by rw [bytesV_len]; omega) hB' ?_; intro v1 w1 ho1 hg1 hs1))
   go_ret
   refine ⟨v1, rfl, ?_, hg'.trans hs' hg1, hs'.trans hg'.size hs1⟩
   rw [← enc_end hlt' HE.out, bytesV_app]
   simp only [bytesV, List.map_cons, List.map_nil, ← byte_lo hlt']; exact ho1
def GivesB (w : World) (bs : List UInt8) (en : Ending) (w' : World) : Prop :=
 ∃ A c, en = .returned (.slice A bs.length c) ∧ bs.length ≤ c ∧ c ≤ maxLen ∧ Own w' w.heap.size 5 (.slice A bs.length c) (bytesV bs) ∧ Ext w w'
theorem gives_b {w w' : World} {v : Value} {bs : List UInt8} (h : Own w' w.heap.size 5 v (bytesV bs)) (e : Ext w w') : GivesB w bs (.returned v) w' := by
 obtain ⟨A, c, hv, h1, h2, _⟩ := h.slice
 rw [bytesV_len] at hv h1
 subst hv
 exact ⟨A, c, rfl, h1, h2, h, e⟩
set_option maxRecDepth 100000 in
theorem rUint_any (n : Nat) (w : World) (hn : Hid (n < U64)) :
  Calls Tryz.prog 105 #[.int .u64 (n : Int)] w (GivesB w (encU n)) := by
 have HB := hJ (show (encU n).length ≤ 11 from encU_len10 hn.out)
 go_enter Tryz.func105, Tryz.ntmps105
 go_wp2; go_loopw [0, 3] (fun m v' wr => ∃ (k : Nat) (ys : List UInt8), m = .int .u64 (k : Int) ∧ Hid (k < U64) ∧ Hid (ys ++ encU k = encU n) ∧ Own wr w.heap.size 5 v' (bytesV ys) ∧ Ext w wr) (fun m _ _ => (intOf m).toNat)
 case atStart => exact ⟨n, [], rfl, hn, rfl, Own.nil _ _ _, Ext.refl _⟩
 case round =>
  obtain ⟨k, ys, rfl, HK, HE, ho', hx'⟩ := hrel
  have hyl : ys.length ≤ 11 := by
   have h1 := HB.out; rw [← HE.out] at h1; simp at h1; omega
  by_cases hlt : 128 ≤ k
  ·have hd : decide ((128 : Int) ≤ (k : Int)) = true := by simp; omega
   have hw := u64_div HK.out
   go_wp2_with (first
    | (at_builtin; refine push_one rfl (.tmp 6) (.tmp 11) _ 5 _ 1 rfl Tryz.underlying29 info_u8 rfl (by decide) wr w.heap.size _ (bytesV ys) (by rfl) _ (by rfl) (by rfl) ho' (by rw [bytesV_len]; omega) hx'.size ?_; intro v1 w1 ho1 hg1 hs1))
   go_roundw
   case rel =>
    refine ⟨k / 128, ys ++ [UInt8.ofNat (k % 128 + 128)], by go_num, by have := HK.out; show k / 128 < U64; omega, enc_step hlt HE.out, ?_, hg1.below hx' hx'.size (fun q hq => (ho'.lt q hq).1)⟩
    rw [bytesV_app]
    first | exact ho1 | (rw [byte_128] at ho1; exact ho1)
   case measure => simp [intOf]; omega
  ·have hd : decide ((128 : Int) ≤ (k : Int)) = false := by simp; omega
   have hlt' : k < 128 := by omega
   go_wp2_with (first
    | (at_builtin; refine push_one rfl (.tmp 15) (.tmp 18) _ 5 _ 1 rfl Tryz.underlying29 info_u8 rfl (by decide) wr w.heap.size _ (bytesV ys) (by rfl) _ (by rfl) (by rfl) ho' (by rw [bytesV_len]; omega) hx'.size ?_; intro v1 w1 ho1 hg1 hs1))
   go_ret
   refine gives_b ?_ (hg1.below hx' hx'.size (fun q hq => (ho'.lt q hq).1))
   rw [← enc_end hlt' HE.out, bytesV_app]
   simp only [bytesV, List.map_cons, List.map_nil, ← byte_lo hlt']; exact ho1
end Go.Proofs.YtponbabbabnaeaaGreat
namespace Go.Proofs.YtponbabbabnaeaaGreat
open Go.RowKit
def zig (n : Int) : Nat := if n < 0 then (2 * (-(n + 1)) + 1).toNat else (2 * n).toNat
def I64 (n : Int) : Prop := -9223372036854775808 ≤ n ∧ n ≤ 9223372036854775807
theorem zig_lt {n : Int} (h : I64 n) : zig n < U64 := by
 unfold zig U64; unfold I64 at h; split <;> omega
theorem xor_zero (a : Nat) (ha : a < 18446744073709551616) : bits .xor .u64 (a : Int) 0 = (a : Int) := by
 show IntKind.u64.wrap ((BitVec.ofInt 64 (a : Int) ^^^ BitVec.ofInt 64 0).toNat : Int) = _
 have e : (BitVec.ofInt 64 (a : Int)).toNat = a := by rw [BitVec.ofInt_natCast, BitVec.toNat_ofNat]; exact Nat.mod_eq_of_lt ha
 simp only [BitVec.ofInt_ofNat, BitVec.xor_zero, e, IntKind.wrap_u64]
 omega
theorem xor_ones (a : Nat) (ha : a < 18446744073709551616) : bits .xor .u64 (a : Int) 18446744073709551615 = ((18446744073709551615 - a : Nat) : Int) := by
 show IntKind.u64.wrap ((BitVec.ofInt 64 (a : Int) ^^^ BitVec.ofInt 64 18446744073709551615).toNat : Int) = _
 have e : (BitVec.ofInt 64 (a : Int)).toNat = a := by rw [BitVec.ofInt_natCast, BitVec.toNat_ofNat]; exact Nat.mod_eq_of_lt ha
 have e1 : BitVec.ofInt 64 18446744073709551615 = BitVec.allOnes 64 := by decide
 rw [e1, BitVec.xor_allOnes, BitVec.toNat_not, e, IntKind.wrap_u64]
 omega
theorem zig_bits {n : Int} (h : I64 n) : bits BinOp.xor IntKind.u64 (IntKind.u64.wrap (IntKind.u64.wrap n * 2)) (IntKind.u64.wrap (n / 9223372036854775808)) = (zig n : Int) := by
 unfold I64 at h
 unfold zig
 simp only [IntKind.wrap_u64]
 split
 ·have h1 : n / 9223372036854775808 % 18446744073709551616 = 18446744073709551615 := by omega
  have h2 : n % 18446744073709551616 * 2 % 18446744073709551616 = ((18446744073709551616 + 2 * n).toNat : Int) := by omega
  rw [h1, h2, xor_ones _ (by omega)]
  omega
 ·have h1 : n / 9223372036854775808 % 18446744073709551616 = 0 := by omega
  have h2 : n % 18446744073709551616 * 2 % 18446744073709551616 = ((2 * n).toNat : Int) := by omega
  rw [h1, h2, xor_zero _ (by omega)]
def unzig (n : Nat) : Int := if n % 2 = 1 then -((n / 2 : Nat) : Int) - 1 else ((n / 2 : Nat) : Int)
end Go.Proofs.YtponbabbabnaeaaGreat
namespace Go.Proofs.YtponbabbabnaeaaGreat
def find (id : Int) : List Int → Nat → Int
 | [], _ => -1
 | x :: xs, k => if x = id then (k : Int) else find id xs (k + 1)
def place (xs : List Int) (id : Int) : Int := find id xs 0
def rises : Int → List Int → Bool
 | _, [] => true
 | last, x :: xs => if x ≤ last ∨ 1000 < x then false else rises x xs
def idsB (xs : List Int) (most : Int) : Bool :=
 if (xs.length : Int) < 1 ∨ most < (xs.length : Int) then false else rises 0 xs
theorem drop_at {xs : List Int} {k : Nat} {x : Int} (h : xs[k]? = some x) : xs.drop k = x :: xs.drop (k + 1) := by
 obtain ⟨hk, rfl⟩ := List.getElem?_eq_some_iff.1 h
 exact List.drop_eq_getElem_cons hk
theorem find_hit {xs : List Int} {id x : Int} {k : Nat} (h : xs[k]? = some x) (he : x = id) : find id (xs.drop k) k = (k : Int) := by
 rw [drop_at h, find, if_pos he]
theorem find_miss {xs : List Int} {id x : Int} {k : Nat} (h : xs[k]? = some x) (he : ¬ x = id) : find id (xs.drop k) k = find id (xs.drop (k + 1)) (k + 1) := by
 rw [drop_at h, find, if_neg he]
theorem find_end {xs : List Int} {id : Int} {k : Nat} (h : ¬ k < xs.length) : find id (xs.drop k) k = -1 := by
 rw [List.drop_of_length_le (by omega)]; rfl
theorem rises_lo {xs : List Int} {last x : Int} {k : Nat} (h : xs[k]? = some x) (he : x ≤ last) : rises last (xs.drop k) = false := by
 rw [drop_at h, rises, if_pos (.inl he)]
theorem rises_hi {xs : List Int} {last x : Int} {k : Nat} (h : xs[k]? = some x) (he : 1000 < x) : rises last (xs.drop k) = false := by
 rw [drop_at h, rises, if_pos (.inr he)]
theorem rises_on {xs : List Int} {last x : Int} {k : Nat} (h : xs[k]? = some x) (h1 : last < x) (h2 : x ≤ 1000) : rises last (xs.drop k) = rises x (xs.drop (k + 1)) := by
 rw [drop_at h, rises, if_neg (by omega)]
theorem rises_end {xs : List Int} {last : Int} {k : Nat} (h : ¬ k < xs.length) : rises last (xs.drop k) = true := by
 rw [List.drop_of_length_le (by omega)]; rfl
def hasB (xs : List Int) (id : Int) : Bool := decide (0 ≤ place xs id)
def isId (id : Int) : Bool := decide (1 ≤ id) && decide (id ≤ 1000)
def majZ (n : Int) : Int := if 1 ≤ n ∧ n ≤ 16 then n / 2 + 1 else 0
def validB (num : Int) (xs : List Int) : Bool := decide (0 ≤ num) && decide (num ≤ 1099511627776) && idsB xs 16
theorem idsB_mid {xs : List Int} {m : Int} (h : (1 : Int) ≤ xs.length) (h' : (xs.length : Int) ≤ m) : idsB xs m = rises 0 xs := by unfold idsB; rw [if_neg (by omega)]
theorem validB_neg {n : Int} {xs : List Int} (h : n < 0) : validB n xs = false := by unfold validB; rw [decide_eq_false (by omega)]; rfl
theorem validB_big {n : Int} {xs : List Int} (h : 1099511627776 < n) : validB n xs = false := by unfold validB; rw [decide_eq_false (p := n ≤ 1099511627776) (by omega)]; simp
theorem validB_mid {n : Int} {xs : List Int} (h : 0 ≤ n) (h' : n ≤ 1099511627776) : validB n xs = idsB xs 16 := by unfold validB; rw [decide_eq_true h, decide_eq_true h']; rfl
def filt (p : Int → Bool) (xs : List Int) (k : Nat) : List Int := (xs.take k).filter p
theorem take_snoc {α : Type} {xs : List α} {k : Nat} {x : α} (h : xs[k]? = some x) : xs.take (k + 1) = xs.take k ++ [x] := by
 rw [List.take_add_one, h]; rfl
theorem filt_in {p : Int → Bool} {xs : List Int} {k : Nat} {x : Int} (h : xs[k]? = some x) (hp : p x = true) : filt p xs (k + 1) = filt p xs k ++ [x] := by
 unfold filt; rw [take_snoc h, List.filter_append]; simp [hp]
theorem filt_out {p : Int → Bool} {xs : List Int} {k : Nat} {x : Int} (h : xs[k]? = some x) (hp : p x = false) : filt p xs (k + 1) = filt p xs k := by
 unfold filt; rw [take_snoc h, List.filter_append]; simp [hp]
theorem filt_len (p : Int → Bool) (xs : List Int) (k : Nat) : (filt p xs k).length ≤ k := by
 unfold filt; have h1 := List.length_filter_le p (xs.take k); have h2 := List.length_take_le k xs; omega
theorem filt_all {p : Int → Bool} {xs : List Int} {k : Nat} (h : ¬ k < xs.length) : filt p xs k = xs.filter p := by
 unfold filt; rw [List.take_of_length_le (by omega)]
def among (l m : List Int) (b : Bool) : List Int := l.filter fun x => hasB m x == b
def sameB (xs ys : List Int) : Bool := decide (xs = ys)
theorem sameB_len {xs ys : List Int} (h : ¬ xs.length = ys.length) : sameB xs ys = false := decide_eq_false (fun e => h (by rw [e]))
theorem sameB_diff {xs ys : List Int} {k : Nat} {x y : Int} (hx : xs[k]? = some x) (hy : ys[k]? = some y) (h : ¬ x = y) : sameB xs ys = false :=
 decide_eq_false (fun e => h (by rw [e, hy] at hx; exact (Option.some.inj hx).symm))
theorem same_step {xs ys : List Int} {k : Nat} {x y : Int} (hx : xs[k]? = some x) (hy : ys[k]? = some y) (h : x = y) (ht : xs.take k = ys.take k) : xs.take (k + 1) = ys.take (k + 1) := by
 rw [take_snoc hx, take_snoc hy, ht, h]
theorem sameB_all {xs ys : List Int} {k : Nat} (hk : ¬ k < xs.length) (hl : xs.length = ys.length) (ht : xs.take k = ys.take k) : sameB xs ys = true := by
 rw [List.take_of_length_le (by omega), List.take_of_length_le (by omega)] at ht
 exact decide_eq_true ht
def leB (x y : Int) : Bool := decide (x ≤ y)
def mergeL (a b : List Int) : List Int := a.merge b leB
theorem merge_take {out a b m : List Int} {i j : Nat} {x y : Int} (hx : a[i]? = some x) (hy : b[j]? = some y) (h : x ≤ y) (e : out ++ mergeL (a.drop i) (b.drop j) = m) : (out ++ [x]) ++ mergeL (a.drop (i + 1)) (b.drop j) = m := by
 rw [← e, drop_at hx, drop_at hy]; unfold mergeL; rw [List.cons_merge_cons_pos _ _ _ (by simp [leB, h])]; simp
theorem merge_put {out a b m : List Int} {i j : Nat} {x y : Int} (hx : a[i]? = some x) (hy : b[j]? = some y) (h : y < x) (e : out ++ mergeL (a.drop i) (b.drop j) = m) : (out ++ [y]) ++ mergeL (a.drop i) (b.drop (j + 1)) = m := by
 rw [← e, drop_at hx, drop_at hy]; unfold mergeL; rw [List.cons_merge_cons_neg _ _ _ (by simp [leB]; omega)]; simp
theorem merge_tail {out a b m : List Int} {i j : Nat} {y : Int} (hi : ¬ i < a.length) (hy : b[j]? = some y) (e : out ++ mergeL (a.drop i) (b.drop j) = m) : (out ++ [y]) ++ mergeL (a.drop i) (b.drop (j + 1)) = m := by
 rw [← e, drop_at hy, List.drop_eq_nil_of_le (by omega)]; unfold mergeL; simp
theorem merge_end {out a b m : List Int} {i j : Nat} (hj : ¬ j < b.length) (e : out ++ mergeL (a.drop i) (b.drop j) = m) : out ++ a.drop i = m := by
 rw [← e, List.drop_eq_nil_of_le (show b.length ≤ j by omega)]; unfold mergeL; simp
def okCut (num : Int) (xs cut : List Int) : Bool := validB num xs && idsB cut 32
def joiners (num : Int) (xs cut : List Int) : List Int := if okCut num xs cut then among cut xs false else []
def survivors (num : Int) (xs cut : List Int) : List Int := if okCut num xs cut then among xs cut false else []
theorem idsB_len {xs : List Int} {m : Nat} (h : idsB xs m = true) : 1 ≤ xs.length ∧ xs.length ≤ m := by
 unfold idsB at h
 split at h
 ·cases h
 ·omega
theorem validB_len {n : Int} {xs : List Int} (h : validB n xs = true) : 1 ≤ xs.length ∧ xs.length ≤ 16 := by
 unfold validB at h; simp only [Bool.and_eq_true] at h; exact idsB_len h.2
theorem okCut_iff {num : Int} {xs cut : List Int} : okCut num xs cut = true ↔ validB num xs = true ∧ idsB cut 32 = true := by simp [okCut]
theorem okCut_not {num : Int} {xs cut : List Int} (h : okCut num xs cut = false) : validB num xs = false ∨ (validB num xs = true ∧ idsB cut 32 = false) := by
 unfold okCut at h; cases h1 : validB num xs <;> simp_all
theorem among_len (l m : List Int) (b : Bool) : (among l m b).length ≤ l.length := List.length_filter_le _ _
def nextF (num : Int) (xs cut : List Int) : Int × List Int × Int :=
 if okCut num xs cut = false then (0, [], 1)
 else if 2 * (survivors num xs cut).length ≤ xs.length then (0, [], 9)
 else if num = 1099511627776 ∨ 16 < (survivors num xs cut).length + (joiners num xs cut).length then (0, [], 5)
 else (num + 1, mergeL (survivors num xs cut) (joiners num xs cut), 0)
theorem validB_num {n : Int} {xs : List Int} (h : validB n xs = true) : 0 ≤ n ∧ n ≤ 1099511627776 := by
 unfold validB at h; simp only [Bool.and_eq_true, decide_eq_true_eq] at h; exact h.1
theorem nextF_maj {num : Int} {xs cut : List Int} (h : okCut num xs cut = true) (h1 : 2 * (survivors num xs cut).length ≤ xs.length) : nextF num xs cut = (0, [], 9) := by
 unfold nextF; rw [if_neg (by simp [h]), if_pos h1]
theorem nextF_lim {num : Int} {xs cut : List Int} (h : okCut num xs cut = true) (h1 : ¬ 2 * (survivors num xs cut).length ≤ xs.length) (h2 : num = 1099511627776 ∨ 16 < (survivors num xs cut).length + (joiners num xs cut).length) : nextF num xs cut = (0, [], 5) := by
 unfold nextF; rw [if_neg (by simp [h]), if_neg h1, if_pos h2]
theorem nextF_ok {num : Int} {xs cut : List Int} (h : okCut num xs cut = true) (h1 : ¬ 2 * (survivors num xs cut).length ≤ xs.length) (h2 : ¬ (num = 1099511627776 ∨ 16 < (survivors num xs cut).length + (joiners num xs cut).length)) : nextF num xs cut = (num + 1, mergeL (survivors num xs cut) (joiners num xs cut), 0) := by
 unfold nextF; rw [if_neg (by simp [h]), if_neg h1, if_neg h2]
theorem surv_len {num : Int} {xs cut : List Int} (h : okCut num xs cut = true) : (survivors num xs cut).length ≤ 16 := by
 unfold survivors; rw [if_pos h]; have := among_len xs cut false; have := (validB_len (okCut_iff.1 h).1).2; omega
theorem join_len {num : Int} {xs cut : List Int} (h : okCut num xs cut = true) : (joiners num xs cut).length ≤ 32 := by
 unfold joiners; rw [if_pos h]; have := among_len cut xs false; have := (idsB_len (m := 32) (okCut_iff.1 h).2).2; omega
end Go.Proofs.YtponbabbabnaeaaGreat
namespace Go.Proofs.YtponbabbabnaeaaGreat
open Go.RowKit
theorem ints_drop (xs : List Int) (k : Nat) : (ints xs).drop k = ints (xs.drop k) := by simp [ints]
theorem ints_len (xs : List Int) : (ints xs).length = xs.length := by simp [ints]
theorem ints_one (xs : List Int) : ∀ u ∈ ints xs, u.oneCell' = true := by
 intro u hu; simp only [ints, List.mem_map] at hu; obtain ⟨x, _, rfl⟩ := hu; rfl
set_option maxHeartbeats 800000 in
theorem merge_any (A B : Option Addr) (c d : Nat) (a b : List Int) (w : World) (ha : Row w A (ints a)) (hb : Row w B (ints b)) (hac : a.length ≤ c) (hna : a.length ≤ 1000) (hnb : b.length ≤ 1000) :
  Calls Tryz.prog 208 #[.slice A a.length c, .slice B b.length d] w (GivesI w (mergeL a b)) := by
 have HA := hJ ha; have HB := hJ hb; clear ha hb
 go_enter Tryz.func208, Tryz.ntmps208
 go_wp2; go_step3
 go_wp2; go_step3
 go_wp2; go_loopg [5, 6, 8, 11] b.length (fun g v i _ jv wr => ∃ (j k : Nat) (out : List Int), j + g = b.length ∧ k ≤ a.length ∧ out.length = k + j ∧ i = .int .i64 k ∧ jv = .int .i64 j ∧ Hid (out ++ mergeL (a.drop k) (b.drop j) = mergeL a b) ∧ Own wr w.heap.size 3 v (ints out) ∧ Ext w wr)
 case atStart => exact ⟨0, 0, [], by omega, by omega, rfl, rfl, rfl, rfl, Own.nil _ _ _, Below.refl _ _⟩
 case round =>
  obtain ⟨j, k, out, hjg, hk, hlen, rfl, rfl, HR, ho, hx⟩ := hrel
  have hlen1 : out.length ≤ 2000 := by omega
  have HLEN := hJ hlen
  clear hlen; cases gk with
  | succ g =>
   have hlt : j < b.length := by omega
   have HJ := hJ hjg
   clear hjg; obtain ⟨bb, ob, y, rfl, hc, HY⟩ := (HB.out.ext hx).at_ hlt
   go_wp2; go_loopg [5, 6] (a.length - k) (fun g2 v i wy => ∃ (k' : Nat) (out' : List Int), k' + g2 = a.length ∧ k' ≤ a.length ∧ i = .int .i64 k' ∧ Hid (out'.length = k' + j) ∧ out'.length ≤ 2000 ∧ Hid (out' ++ mergeL (a.drop k') (b.drop j) = mergeL a b) ∧ Own wy w.heap.size 3 v (ints out') ∧ Ext w wy)
   case atStart => exact ⟨k, out, by omega, hk, rfl, HLEN.out, hlen1, HR, ho, hx⟩
   case round =>
    obtain ⟨k', out', hkg, hk', rfl, HL', hl', HR', ho', hx'⟩ := hrel
    cases gk with
    | succ g2 =>
     have hlt' : k' < a.length := by omega
     have HK := hJ hkg
     clear hkg; obtain ⟨ba, oa, x, rfl, hca, HX⟩ := (HA.out.ext hx').at_ hlt'
     by_cases hgt : y < x
     ·go_wp2_with (first
       | (at_builtin; refine push_int rfl (.tmp 27) (.tmp 29) rfl _ w.heap.size _ out' (by rfl) y (by rfl) ho' (by omega) hx'.size ?_; intro v1 w1 ho1 hg1 hs1))
      go_roundg g
      case measure => omega
      case rel => exact ⟨j + 1, k', out' ++ [y], by have := HJ.out; omega, by omega, by have := HL'.out; simp; omega, rfl, by go_num, merge_put HX.out HY.out hgt HR'.out, ho1, hg1.below hx' hx'.size (fun q hq => (ho'.lt q hq).1)⟩
     ·have hle : x ≤ y := by omega
      clear hgt; go_wp2_with (first
       | (at_builtin; refine push_int rfl (.tmp 31) (.tmp 36) rfl _ w.heap.size _ out' (by rfl) x (by rfl) ho' (by omega) hx'.size ?_; intro v1 w1 ho1 hg1 hs1))
      go_roundg g2
      case measure => omega
      case rel => exact ⟨k' + 1, out' ++ [x], by have := HK.out; omega, by omega, by go_num, by have := HL'.out; show (out' ++ [x]).length = k' + 1 + j; simp; omega, by have := HL'.out; simp; omega, merge_take HX.out HY.out hle HR'.out, ho1, hg1.below hx' hx'.size (fun q hq => (ho'.lt q hq).1)⟩
    | zero =>
     have hlt' : ¬ k' < a.length := by omega
     have HK := hJ hkg
     clear hkg; go_wp2_with (first
       | (at_builtin; refine push_int rfl (.tmp 38) (.tmp 40) rfl _ w.heap.size _ out' (by rfl) y (by rfl) ho' (by omega) hx'.size ?_; intro v1 w1 ho1 hg1 hs1))
     go_roundg g
     case measure => omega
     case rel => exact ⟨j + 1, k', out' ++ [y], by have := HJ.out; omega, by omega, by have := HL'.out; simp; omega, rfl, by go_num, merge_tail hlt' HY.out HR'.out, ho1, hg1.below hx' hx'.size (fun q hq => (ho'.lt q hq).1)⟩
  | zero =>
   have hlt : ¬ j < b.length := by omega
   have HJ := hJ hjg
   clear hjg; by_cases hck : c = k
   ·have hz : a.length ≤ k := by omega
    have HZ := hJ (fun A' => ints_drop a k ▸ Row.past (w := wr) (A := A') (xs := ints a) (k := k) (by rw [ints_len]; exact hz))
    subst hck
    go_wp2_with (first
     | (at_builtin; refine push_row rfl (.tmp 43) (.tmp 46) _ 3 _ 8 rfl Tryz.underlying44 info_int rfl (by decide) _ w.heap.size _ (ints out) (by rfl) _ _ _ (ints (a.drop c)) (by rfl) (by simp only [ints_len, List.length_drop]; try omega) (HZ.out _) (ints_one _) ho (by rw [ints_len]; omega) hx.size ?_; intro v1 w1 ho1 hg1 hs1))
    try rw [Exit.noGoto_ret]
    go_ret
    exact gives_own (by rw [← merge_end hlt HR.out]; simpa [ints] using ho1) (hg1.below hx hx.size (fun q hq => (ho.lt q hq).1))
   ·have HZ := hJ (ints_drop a k ▸ Row.map_ (HA.out.ext hx) (by rw [ints_len]; exact hac) hck)
    go_wp2_with (first
     | (at_builtin; refine push_row rfl (.tmp 43) (.tmp 46) _ 3 _ 8 rfl Tryz.underlying44 info_int rfl (by decide) _ w.heap.size _ (ints out) (by rfl) _ _ _ (ints (a.drop k)) (by rfl) (by simp only [ints_len, List.length_drop]; try omega) HZ.out (ints_one _) ho (by rw [ints_len]; omega) hx.size ?_; intro v1 w1 ho1 hg1 hs1))
    try rw [Exit.noGoto_ret]
    go_ret
    exact gives_own (by rw [← merge_end hlt HR.out]; simpa [ints] using ho1) (hg1.below hx hx.size (fun q hq => (ho.lt q hq).1))
end Go.Proofs.YtponbabbabnaeaaGreat
