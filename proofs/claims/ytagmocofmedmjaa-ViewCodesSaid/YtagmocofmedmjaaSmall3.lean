/- The contract of layer 3's Small. -/
import Derived.Test.YtagmocofmedmjaaWords
import Derived.Test.YtagmocofmedmjaaPlain
namespace Go.Proofs.Ytagmocofmedmjaa
open Go.RowKit

def slV (ls : List (Option Addr × Nat × Nat)) : List Value := ls.map fun p => .slice p.1 p.2.1 p.2.2
def smallB (ls : List (Option Addr × Nat × Nat)) : Bool := ls.all fun p => decide (p.2.1 ≤ 100)
theorem small_drop {ls : List (Option Addr × Nat × Nat)} {k : Nat} {p : Option Addr × Nat × Nat} (h : ls[k]? = some p) : smallB (ls.drop k) = (decide (p.2.1 ≤ 100) && smallB (ls.drop (k + 1))) := by
  obtain ⟨hk, rfl⟩ := List.getElem?_eq_some_iff.1 h
  rw [List.drop_eq_getElem_cons hk]; rfl
theorem Row.sl {w : World} {A : Option Addr} {ls : List (Option Addr × Nat × Nat)} {k : Nat} (h : Row w A (slV ls)) (hk : k < ls.length) :
    ∃ b off a n c, A = some ⟨b, off, none⟩ ∧ w.cell? ⟨b, off + k, none⟩ = some (.slice a n c) ∧ Hid (ls[k]? = some (a, n, c)) := by
  obtain ⟨b, off, h1, _, h3⟩ := h.addr (k := k) (by simpa [slV] using hk)
  exact ⟨b, off, ls[k].1, ls[k].2.1, ls[k].2.2, h1, h3 k _ (by simp [slV, List.getElem?_eq_getElem hk]), List.getElem?_eq_getElem hk⟩

theorem small3_any (A : Option Addr) (c : Nat) (ls : List (Option Addr × Nat × Nat)) (w : World) (h : Row w A (slV ls)) (hn : ls.length ≤ 1000) :
    Calls Try.prog 15 #[.slice A ls.length c] w fun e w' => e = .returned (.bool (smallB ls)) ∧ w = w' := by
  have H := Lib.hid h; clear h
  go_enter Try.func15, Try.ntmps15
  go_wp2
  go_loop [3] (fun i => ∃ k : Nat, k ≤ ls.length ∧ i = .int .i64 k ∧ Hid (smallB (ls.drop k) = smallB ls)) (fun i => ls.length - (intOf i).toNat)
  case atStart => exact ⟨0, Nat.zero_le _, rfl, rfl⟩
  case round =>
    obtain ⟨k, hk, rfl, HR⟩ := hrel
    by_cases hlt : k < ls.length
    · obtain ⟨b, off, a, n, cc, rfl, hc, HX⟩ := H.out.sl hlt
      by_cases hb : 100 < n
      · have HF : Hid (smallB ls = false) := by rw [Hid, ← HR.out, small_drop HX.out, decide_eq_false (by simpa using hb)]; rfl
        go_wp2
        go_ret
        exact ⟨ret_bool HF.out.symm, rfl⟩
      · have HF : Hid (smallB (ls.drop (k + 1)) = smallB ls) := by
          have := HR.out; rw [small_drop HX.out, decide_eq_true (by simp; omega)] at this; rw [Hid]; simpa using this
        have hb' : n ≤ 100 := by omega
        clear hb
        go_wp2
        go_round
        case rel => exact ⟨k + 1, by omega, by go_num, HF⟩
        case measure => simp [intOf]; omega
    · have HF : Hid (smallB ls = true) := by rw [Hid, ← HR.out, List.drop_of_length_le (by omega)]; rfl
      go_wp2
      go_ret
      exact ⟨ret_bool HF.out.symm, rfl⟩
end Go.Proofs.Ytagmocofmedmjaa
