/- From the readings of a statement's arguments to what the walks ask of them. -/
import Derived.Test.YtagmocofmedmjaaRows
import Derived.Test.YtagmocofmedmjaaArith
import Derived.ProofKit
import Derived.OpenShut
import Derived.ShutString
import Derived.ChangeOld
import Derived.Below
import Derived.Lib.SmallJoins
namespace Go.Proofs.Ytagmocofmedmjaa
open Go.ChangeShapes Go.WideShapes Go.ChangeAt Go.RowKit

theorem own : ownKnob Try.prog.godebug = none := by kernel_rfl
theorem laidOut : laidOutB Try.prog = true := by kernel_rfl

theorem row_of_nums {w : World} {a : Addr} {k : IntKind} {zs : List Int} {len : Nat} (hlen : len ≤ zs.length) (h : ∀ i, i < zs.length → w.cell? (a.add i) = some (.int k (zs.getD i 0))) :
    Row w (some a) ((zs.take len).map (Value.int k)) := by
  intro hne
  have hp : 0 < zs.length := by
    rcases Nat.eq_zero_or_pos zs.length with h0 | h0
    · have : zs = [] := List.eq_nil_of_length_eq_zero h0
      subst this; simp at hne
    · exact h0
  obtain ⟨b, off, rfl, hc⟩ := ints_at h hp
  refine ⟨b, off, rfl, ?_, fun j v hj => ?_⟩
  · have := World.block_lt_of_cell? w _ (hc 0 hp); exact this
  · simp only [List.getElem?_map, Option.map_eq_some_iff] at hj
    obtain ⟨x, hx, rfl⟩ := hj
    simp only [List.getElem?_take] at hx
    split at hx
    · have hj' := (List.getElem?_eq_some_iff.1 hx).1
      rw [hc j hj']; simp [List.getD, hx]
    · cases hx

section
variable {H : Type} {enc : TypeId × Value → H} {w : World} {base : Nat} {spare : Nat → Bool} {held : Bool}
theorem open_intsR {fuel : Nat} {cs : List Value} {x : DataW H × List MemPlace} (h : DataW.trod enc Try.prog w base spare held fuel 22 cs = some x) :
    ∃ A c, ∃ xs : List Int, cs = [.slice A xs.length c] ∧ xs.length ≤ c ∧ c ≤ maxLen ∧ Row w A (ints xs) ∧ ∀ x ∈ xs, I64 x := by
  rcases open_ints Try.underlying22 Try.underlying3 (by kernel_rfl) h with ⟨hcs, _⟩ | ⟨a, len, cap, zs, hcs, _, hl, hm, hz, _, hcell, hwz⟩
  · exact ⟨none, 0, [], hcs, Nat.le_refl _, Nat.zero_le _, Row.nil _ _, fun x hx => by simp at hx⟩
  · have hlz : len ≤ zs.length := by rw [hz]; split <;> omega
    refine ⟨some a, cap, zs.take len, by rw [hcs, List.length_take, Nat.min_eq_left hlz], by rw [List.length_take]; omega, hm, row_of_nums hlz hcell, fun x hx => ?_⟩
    have := bounds_i64 (hwz x (List.mem_of_mem_take hx))
    exact this
theorem open_bytesR {fuel : Nat} {cs : List Value} {x : DataW H × List MemPlace} (h : DataW.trod enc Try.prog w base spare held fuel 54 cs = some x) :
    ∃ A c, ∃ bs : List UInt8, cs = [.slice A bs.length c] ∧ bs.length ≤ c ∧ c ≤ maxLen ∧ Row w A (bytesV bs) := by
  rcases open_ints Try.underlying54 Try.underlying5 (by kernel_rfl) h with ⟨hcs, _⟩ | ⟨a, len, cap, zs, hcs, _, hl, hm, hz, _, hcell, hwz⟩
  · exact ⟨none, 0, [], hcs, Nat.le_refl _, Nat.zero_le _, Row.nil _ _⟩
  · have hlz : len ≤ zs.length := by rw [hz]; split <;> omega
    have hb : bytesV ((zs.take len).map fun z => UInt8.ofNat z.toNat) = (zs.take len).map (Value.int .u8) := by
      unfold bytesV
      rw [List.map_map]
      refine List.map_congr_left fun z hz' => ?_
      have hb := bounds_u8 (hwz z (List.mem_of_mem_take hz'))
      simp only [Function.comp, UInt8.toNat_ofNat']
      congr 1
      omega
    refine ⟨some a, cap, (zs.take len).map fun z => UInt8.ofNat z.toNat, by rw [hcs, List.length_map, List.length_take, Nat.min_eq_left hlz], by rw [List.length_map, List.length_take]; omega, hm, ?_⟩
    rw [hb]; exact row_of_nums hlz hcell
theorem open_i64R {fuel : Nat} {cs : List Value} {x : DataW H × List MemPlace} (h : DataW.trod enc Try.prog w base spare held fuel 3 cs = some x) : ∃ n, cs = [.int .i64 n] ∧ I64 n := by
  obtain ⟨n, h1, _, h3⟩ := DataW.trod_int Try.underlying3 h
  exact ⟨n, h1, bounds_i64 h3⟩
/-- an argument of a type of one cell: its reading at the value's one cell -/
theorem argInts {r : Reach} {b0 : Nat} {v : Value} {d : DataW H} {p : List MemPlace} (hv : Value.okWide Try.prog w r b0 22 v) (h : DataW.Trod enc Try.prog w base spare held 22 v d p) :
    ∃ A c, ∃ xs : List Int, v = .slice A xs.length c ∧ xs.length ≤ c ∧ c ≤ maxLen ∧ Row w A (ints xs) ∧ ∀ x ∈ xs, I64 x := by
  obtain ⟨a, len, cap, rfl⟩ := okWide_slice Try.underlying22 hv
  obtain ⟨fuel, hf⟩ := h
  obtain ⟨A, c, xs, hcs, hr⟩ := open_intsR hf
  simp [Value.cells] at hcs
  obtain ⟨rfl, rfl, rfl⟩ := hcs
  exact ⟨_, _, xs, rfl, hr⟩
theorem argBytes {r : Reach} {b0 : Nat} {v : Value} {d : DataW H} {p : List MemPlace} (hv : Value.okWide Try.prog w r b0 54 v) (h : DataW.Trod enc Try.prog w base spare held 54 v d p) :
    ∃ A c, ∃ bs : List UInt8, v = .slice A bs.length c ∧ bs.length ≤ c ∧ c ≤ maxLen ∧ Row w A (bytesV bs) := by
  obtain ⟨a, len, cap, rfl⟩ := okWide_slice Try.underlying54 hv
  obtain ⟨fuel, hf⟩ := h
  obtain ⟨A, c, xs, hcs, hr⟩ := open_bytesR hf
  simp [Value.cells] at hcs
  obtain ⟨rfl, rfl, rfl⟩ := hcs
  exact ⟨_, _, xs, rfl, hr⟩
theorem argInt {r : Reach} {b0 : Nat} {v : Value} {d : DataW H} {p : List MemPlace} (hv : Value.okWide Try.prog w r b0 3 v) (h : DataW.Trod enc Try.prog w base spare held 3 v d p) : ∃ n, v = .int .i64 n ∧ I64 n := by
  obtain ⟨n, rfl, _, _, h3⟩ := open_int Try.underlying3 hv h
  exact ⟨n, rfl, bounds_i64 h3⟩
theorem argView {r : Reach} {b0 : Nat} {v : Value} {d : DataW H} {p : List MemPlace} (hv : Value.okWide Try.prog w r b0 36 v) (h : DataW.Trod enc Try.prog w base spare held 36 v d p) :
    ∃ n A c, ∃ xs : List Int, v = .agg #[.int .i64 n, .slice A xs.length c] ∧ I64 n ∧ xs.length ≤ c ∧ c ≤ maxLen ∧ Row w A (ints xs) ∧ ∀ x ∈ xs, I64 x := by
  obtain ⟨v0, v1, y0, y1, m, rfl, _, _, h0, h1⟩ := Joins.open_agg2 Try.underlying36 (by kernel_rfl) (by kernel_rfl) hv h
  obtain ⟨n, hn, hi⟩ := open_i64R h0
  obtain ⟨A, c, xs, hcs, hr⟩ := open_intsR h1
  simp at hn hcs
  subst hn hcs
  exact ⟨n, A, c, xs, rfl, hi, hr⟩
end
end Go.Proofs.Ytagmocofmedmjaa
