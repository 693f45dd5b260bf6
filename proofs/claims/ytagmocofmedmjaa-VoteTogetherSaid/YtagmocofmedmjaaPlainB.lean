/- The encoding of unsigned numbers, as a plain function. -/
namespace Go.Proofs.Ytagmocofmedmjaa
def U64 : Nat := 18446744073709551616
def encU (v : Nat) : List UInt8 := if h : v < 128 then [UInt8.ofNat v] else UInt8.ofNat (v % 128 + 128) :: encU (v / 128)
termination_by v
decreasing_by omega
theorem encU_lo {v : Nat} (h : v < 128) : encU v = [UInt8.ofNat v] := by rw [encU, dif_pos h]
theorem encU_hi {v : Nat} (h : 128 ≤ v) : encU v = UInt8.ofNat (v % 128 + 128) :: encU (v / 128) := by rw [encU, dif_neg (by omega)]
theorem encU_len : ∀ (f v : Nat), v < 128 ^ f → (encU v).length ≤ f + 1 := by
  intro f
  induction f with
  | zero => intro v h; simp at h; subst h; rw [encU_lo (by omega)]; simp
  | succ f ih =>
    intro v h
    by_cases hv : v < 128
    · rw [encU_lo hv]; simp
    · rw [encU_hi (by omega)]
      have := ih (v / 128) (by rw [Nat.pow_succ] at h; omega)
      simp; omega
theorem encU_len10 {v : Nat} (h : v < U64) : (encU v).length ≤ 11 := encU_len 10 v (Nat.lt_of_lt_of_le h (by decide))
theorem enc_step {pre : List UInt8} {full : List UInt8} {v : Nat} (h : 128 ≤ v) (e : pre ++ encU v = full) : (pre ++ [UInt8.ofNat (v % 128 + 128)]) ++ encU (v / 128) = full := by
  rw [← e, encU_hi h]; simp
theorem enc_end {pre : List UInt8} {full : List UInt8} {v : Nat} (h : v < 128) (e : pre ++ encU v = full) : pre ++ [UInt8.ofNat v] = full := by
  rw [← e, encU_lo h]
end Go.Proofs.Ytagmocofmedmjaa
