/- What a slice of ints reads as, and how such readings are kept while the call makes new memory. -/
import Derived.Test.YtagmocofmedmjaaProg
import Derived.WalkKit
import Derived.WalkLawsBesides
import Derived.Lib.Hide
import Derived.Deep.QuietTactic
import Derived.BigQuiet
namespace Go.Proofs.Ytagmocofmedmjaa
open Go.RowKit

/-- the cells xs lie from address A on (nothing is asked where xs is empty) -/
def Row (w : World) (A : Option Addr) (xs : List Value) : Prop :=
  xs ≠ [] → ∃ b off, A = some ⟨b, off, none⟩ ∧ b < w.heap.size ∧ ∀ j v, xs[j]? = some v → w.cell? ⟨b, off + j, none⟩ = some v

/-- the numbers of a slice of ints, as cells -/
def ints (xs : List Int) : List Value := xs.map (Value.int .i64)

/-- w' is w with more memory; nothing that was there has turned -/
abbrev Ext (w w' : World) : Prop := Below w.heap.size w w'

theorem Row.nil (w : World) (A : Option Addr) : Row w A [] := fun h => absurd rfl h
theorem Row.ext {w w' : World} {A : Option Addr} {xs : List Value} (h : Row w A xs) (e : Ext w w') : Row w' A xs := fun hx => by
  obtain ⟨b, off, h1, h2, h3⟩ := h hx
  exact ⟨b, off, h1, Nat.lt_of_lt_of_le h2 e.size, fun j v hv => (e.cell (p := ⟨b, off + j, none⟩) h2).trans (h3 j v hv)⟩
theorem Row.addr {w : World} {A : Option Addr} {xs : List Value} {k : Nat} (h : Row w A xs) (hk : k < xs.length) :
    ∃ b off, A = some ⟨b, off, none⟩ ∧ b < w.heap.size ∧ ∀ j v, xs[j]? = some v → w.cell? ⟨b, off + j, none⟩ = some v :=
  h (fun e => by rw [e] at hk; simp at hk)
theorem Row.at_ {w : World} {A : Option Addr} {xs : List Int} {k : Nat} (h : Row w A (ints xs)) (hk : k < xs.length) :
    ∃ b off x, A = some ⟨b, off, none⟩ ∧ w.cell? ⟨b, off + k, none⟩ = some (.int .i64 x) ∧ Hid (xs[k]? = some x) := by
  obtain ⟨b, off, h1, _, h3⟩ := h.addr (k := k) (by simpa [ints] using hk)
  exact ⟨b, off, xs[k], h1, h3 k _ (by simp [ints, List.getElem?_eq_getElem hk]), List.getElem?_eq_getElem hk⟩

theorem Row.cell {w : World} {b off : Nat} {xs : List Int} {k : Nat} {x : Int} (h : Row w (some ⟨b, off, none⟩) (ints xs)) (hx : xs[k]? = some x) : w.cell? ⟨b, off + k, none⟩ = some (.int .i64 x) := by
  obtain ⟨b', off', h1, _, h3⟩ := h.addr (k := k) (by simpa [ints] using (List.getElem?_eq_some_iff.1 hx).1)
  cases h1
  exact h3 k _ (by simp [ints, hx])

theorem Row.cut {w : World} {A : Option Addr} {xs : List Value} {k c : Nat} (h : Row w A xs) (hc : xs.length ≤ c) : Row w (if c = k then A else A.map (·.add k)) (xs.drop k) := by
  intro hne
  have hk : k < xs.length := by
    rcases Nat.lt_or_ge k xs.length with h1 | h1
    · exact h1
    · exact absurd (List.drop_eq_nil_of_le h1) hne
  obtain ⟨b, off, rfl, hb, h3⟩ := h.addr hk
  rw [if_neg (by omega)]
  refine ⟨b, off + k, ?_, hb, fun j v hj => ?_⟩
  · simp only [Option.map_some, Option.some.injEq]
    unfold Addr.add
    split <;> simp_all
  · have := h3 (k + j) v (by rw [← hj, List.getElem?_drop])
    rw [Nat.add_assoc]; exact this

theorem Row.past {w : World} {A : Option Addr} {xs : List Value} {k : Nat} (h : xs.length ≤ k) : Row w A (xs.drop k) := by
  rw [List.drop_eq_nil_of_le h]; exact Row.nil _ _
theorem Row.map_ {w : World} {A : Option Addr} {xs : List Value} {k c : Nat} (h : Row w A xs) (hc : xs.length ≤ c) (hk : ¬ c = k) : Row w (A.map (·.add k)) (xs.drop k) := by
  have := h.cut (k := k) hc; rw [if_neg hk] at this; exact this

/-- w' is w with draws made; no memory has turned -/
def Still (w w' : World) : Prop := ∃ n, w' = w.drewN n
theorem Still.refl (w : World) : Still w w := ⟨0, rfl⟩
theorem Still.trans {a b c : World} (h : Still a b) (k : Still b c) : Still a c := by
  obtain ⟨n, rfl⟩ := h; obtain ⟨m, rfl⟩ := k; exact ⟨n + m, by simp⟩
theorem Still.drewN {a b : World} (h : Still a b) (n : Nat) : Still a (b.drewN n) := h.trans ⟨n, rfl⟩
theorem Still.ext {w w' : World} (h : Still w w') : Ext w w' := by
  obtain ⟨n, rfl⟩ := h; exact ⟨rfl, rfl, rfl, Nat.le_refl _, fun _ _ => rfl⟩
theorem Still.row {w w' : World} (h : Still w w') {A : Option Addr} {xs : List Value} (r : Row w A xs) : Row w' A xs := r.ext h.ext
theorem Row.drewN {w : World} {A : Option Addr} {xs : List Value} (r : Row w A xs) (n : Nat) : Row (w.drewN n) A xs := r
theorem Ext.trans {a b c : World} (h : Ext a b) (k : Ext b c) : Ext a c := Below.trans h (k.mono h.size)
theorem Ext.alloc {a b : World} (h : Ext a b) (o : Obj) : Ext a (b.alloc o) := Below.alloc h h.size o
theorem Ext.drewN {a b : World} (h : Ext a b) (n : Nat) : Ext a (b.drewN n) := ⟨h.os, h.tape, h.output, h.size, h.block⟩

theorem quiet_still {P : Program} {f : FuncId} {args : Array Value} {w : World} {n : Nat} {v : Value}
    (h : Calls P f args (w.drewN n) fun e w' => e = .returned v ∧ Still (w.drewN n) w') : Calls P f args (w.drewN n) fun e w'' => e = .returned v ∧ ∃ m, w'' = w.drewN m :=
  h.mono fun _ _ ⟨he, m, hm⟩ => ⟨he, n + m, by rw [hm, World.drewN_drewN]⟩
theorem quiet_same {P : Program} {f : FuncId} {args : Array Value} {w : World} {n : Nat} {v : Value}
    (h : Calls P f args (w.drewN n) fun e w' => e = .returned v ∧ w.drewN n = w') : Calls P f args (w.drewN n) fun e w'' => e = .returned v ∧ ∃ m, w'' = w.drewN m :=
  h.mono fun _ _ ⟨he, hm⟩ => ⟨he, n, hm.symm⟩
theorem Ext.cell_new {w w1 : World} {cs : Array Value} {t : TypeId} (h : Ext (w.alloc (.cells cs t)) w1) (i : Nat) : w1.cell? ⟨w.heap.size, i, none⟩ = cs[i]? := by
  rw [h.cell (p := ⟨w.heap.size, i, none⟩) (by simp)]; simp
theorem Ext.frozen_new {w w1 : World} {cs : Array Value} {t : TypeId} (h : Ext (w.alloc (.cells cs t)) w1) (i : Nat) : w1.frozen? ⟨w.heap.size, i, none⟩ = false := by
  rw [h.frozen (p := ⟨w.heap.size, i, none⟩) (by simp)]; simp
theorem Ext.refl (w : World) : Ext w w := Below.refl _ _
theorem Ext.new (w : World) (o : Obj) : Ext w (w.alloc o) := (Below.refl _ _).alloc (Nat.le_refl _) _
theorem Ext.drew {a b : World} (h : Ext a b) : Ext a b.drew := ⟨h.os, h.tape, h.output, h.size, h.block⟩
theorem ret_int {k : IntKind} {a b : Int} (h : a = b) : Ending.returned (.int k a) = .returned (.int k b) := by rw [h]
theorem ret_bool {a b : Bool} (h : a = b) : Ending.returned (.bool a) = .returned (.bool b) := by rw [h]
end Go.Proofs.Ytagmocofmedmjaa
