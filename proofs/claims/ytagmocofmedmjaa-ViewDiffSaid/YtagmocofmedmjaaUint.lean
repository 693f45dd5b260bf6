/- Contracts: a number is read from bytes (package wire, and the reference of layer 1). -/
import Derived.Test.YtagmocofmedmjaaPlainR
namespace Go.Proofs.Ytagmocofmedmjaa
open Go.RowKit

theorem Row.byteN {w : World} {A : Option Addr} {bs : List UInt8} {k : Nat} (h : Row w A (bytesV bs)) (hk : k < bs.length) :
    ∃ b off m, A = some ⟨b, off, none⟩ ∧ w.cell? ⟨b, off + k, none⟩ = some (.int .u8 ((m : Nat) : Int)) ∧ m < 256 ∧ Hid (∃ x, bs[k]? = some x ∧ x.toNat = m) := by
  obtain ⟨b, off, x, h1, h2, h3⟩ := h.byte hk
  exact ⟨b, off, x.toNat, h1, h2, x.toNat_lt, x, h3, rfl⟩
/-- three results: a number, a length, an error -/
def retU (r : Nat × Nat × Int) : Ending := .returned (.tuple #[.int .u64 (r.1 : Int), .int .i64 (r.2.1 : Int), .int .i64 r.2.2])
theorem retU_of {r : Nat × Nat × Int} {a b e : Int} {x y : Nat} (h : r = (x, y, e)) (h1 : a = (x : Int)) (h2 : b = (y : Int)) : Ending.returned (.tuple #[.int .u64 a, .int .i64 b, .int .i64 e]) = retU r := by
  rw [h, h1, h2]; rfl

set_option maxRecDepth 100000 in
set_option maxHeartbeats 800000 in
theorem uint_any (A : Option Addr) (c : Nat) (bs : List UInt8) (w : World) (h : Row w A (bytesV bs)) (hl : bs.length ≤ 1000000000) :
    Calls Try.prog 78 #[.slice A bs.length c] w fun e w' => e = retU (decU bs) ∧ w = w' := by
  have H := Lib.hid h; clear h
  go_enter Try.func78, Try.ntmps78
  go_wp2
  go_loop [2, 5, 6, 9] (fun v _ _ i => ∃ k a : Nat, k ≤ bs.length ∧ k ≤ 9 ∧ v = .int .u64 (a : Int) ∧ i = .int .i64 (k : Int) ∧ Hid (a < 2 ^ (7 * k)) ∧ Hid (readU (bs.drop k) k a = decU bs)) (fun _ _ _ i => bs.length - (intOf i).toNat)
  case atStart => exact ⟨0, 0, by omega, by omega, rfl, rfl, by simp [Hid], rfl⟩
  case round =>
    obtain ⟨k, a, hk, hk9, rfl, rfl, HA, HR⟩ := hrel
    by_cases hlt : k < bs.length
    · obtain ⟨b, off, m, rfl, hc, hm, HX⟩ := H.out.byteN hlt
      by_cases h9 : k = 9
      · subst h9
        by_cases h1 : 1 < m
        · have HF : Hid (decU bs = (0, 0, 3)) := by
            obtain ⟨x, hx, rfl⟩ := HX.out; rw [← HR.out]; exact readU_bad hx (.inl ⟨rfl, h1⟩)
          go_wp2
          go_ret3
          exact ⟨retU_of HF.out rfl rfl, rfl⟩
        · by_cases h0 : m = 0
          · have HF : Hid (decU bs = (0, 0, 3)) := by
              obtain ⟨x, hx, hx'⟩ := HX.out; rw [← HR.out]; exact readU_bad hx (.inr ⟨by omega, by omega⟩)
            have hz : ((m : Int) == 0) = true := by simp; omega
            have hd : decide ((1 : Int) < (m : Int)) = false := by simp; omega
            have hm1 : m ≤ 1 := by omega
            clear h0 h1
            go_wp2
            go_ret3
            exact ⟨retU_of HF.out rfl rfl, rfl⟩
          · have HF : Hid (decU bs = (a + m % 128 * 2 ^ (7 * 9), 9 + 1, 0)) := by
              obtain ⟨x, hx, rfl⟩ := HX.out; rw [← HR.out]; exact readU_last hx (by omega) (by omega)
            have hz : ((m : Int) == 0) = false := by simp; omega
            have hd : decide ((1 : Int) < (m : Int)) = false := by simp; omega
            have hm1 : m ≤ 1 := by omega
            clear h0 h1
            go_wp2
            go_ret3
            exact ⟨retU_of HF.out (or_nine hm1 HA.out) rfl, rfl⟩
      · have hk8 : k < 9 := by omega
        have h9b : ((k : Int) == 9) = false := by simp; omega
        clear h9
        by_cases h0 : 0 < k ∧ m = 0
        · obtain ⟨h0, h1⟩ := h0
          have HF : Hid (decU bs = (0, 0, 3)) := by
            obtain ⟨x, hx, hx'⟩ := HX.out; rw [← HR.out]; exact readU_bad hx (.inr ⟨h0, by omega⟩)
          have hz : ((m : Int) == 0) = true := by simp; omega
          clear h1
          go_wp2
          go_ret3
          exact ⟨retU_of HF.out rfl rfl, rfl⟩
        · by_cases h2 : m < 128
          · have HF : Hid (decU bs = (a + m % 128 * 2 ^ (7 * k), k + 1, 0)) := by
              obtain ⟨x, hx, rfl⟩ := HX.out; rw [← HR.out]; exact readU_last hx (by omega) h2
            rcases Nat.eq_zero_or_pos k with hk0 | hk0
            · have hkz : decide (0 < k) = false := by simp; omega
              have HZ := Lib.hid hk0
              have hk1 : k ≤ 0 := by omega
              clear h0 hk0
              go_wp2
              go_ret3
              exact ⟨retU_of HF.out (or_step hm HA.out hk8) (by omega), rfl⟩
            · have hz : ((m : Int) == 0) = false := by simp; omega
              clear h0
              go_wp2
              go_ret3
              exact ⟨retU_of HF.out (or_step hm HA.out hk8) (by omega), rfl⟩
          · have HF : Hid (readU (bs.drop (k + 1)) (k + 1) (a + m % 128 * 2 ^ (7 * k)) = decU bs) := by
              obtain ⟨x, hx, rfl⟩ := HX.out; rw [← HR.out]; exact (readU_next hx (by omega) h2).symm
            have h2' : 128 ≤ m := by omega
            have hz : ((m : Int) == 0) = false := by simp; omega
            clear h0 h2
            rcases Nat.eq_zero_or_pos k with hk0 | hk0
            · have hkz : decide (0 < k) = false := by simp; omega
              have hk1 : k ≤ 0 := by omega
              clear hk0
              go_wp2
              go_round
              case rel => exact ⟨k + 1, a + m % 128 * 2 ^ (7 * k), by omega, by omega, by rw [or_step hm HA.out hk8], by go_num, pow_next HA.out, HF⟩
              case measure => simp [intOf]; omega
            · go_wp2
              go_round
              case rel => exact ⟨k + 1, a + m % 128 * 2 ^ (7 * k), by omega, by omega, by rw [or_step hm HA.out hk8], by go_num, pow_next HA.out, HF⟩
              case measure => simp [intOf]; omega
    · have HF : Hid (decU bs = (0, 0, 2)) := by rw [Hid, ← HR.out]; exact readU_end hlt
      go_wp2
      go_ret3
      exact ⟨retU_of HF.out rfl rfl, rfl⟩
end Go.Proofs.Ytagmocofmedmjaa
