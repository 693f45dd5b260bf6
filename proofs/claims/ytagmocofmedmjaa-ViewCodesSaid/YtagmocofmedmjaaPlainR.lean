/- What the decoding of numbers computes, and the arithmetic of its bits. -/
import Derived.Test.YtagmocofmedmjaaArith
namespace Go.Proofs.Ytagmocofmedmjaa
open Go.RowKit

/-- a number is read from bytes: the number, how many bytes it took, the error; i bytes have been read, v is their worth -/
def readU : List UInt8 → Nat → Nat → Nat × Nat × Int
  | [], _, _ => (0, 0, 2)
  | c :: cs, i, v =>
    if (i = 9 ∧ 1 < c.toNat) ∨ (0 < i ∧ c.toNat = 0) then (0, 0, 3)
    else if c.toNat < 128 then (v + c.toNat % 128 * 2 ^ (7 * i), i + 1, 0)
    else readU cs (i + 1) (v + c.toNat % 128 * 2 ^ (7 * i))
def decU (bs : List UInt8) : Nat × Nat × Int := readU bs 0 0

section
variable {bs : List UInt8} {k v : Nat} {c : UInt8}
theorem dropB (h : bs[k]? = some c) : bs.drop k = c :: bs.drop (k + 1) := by
  obtain ⟨hk, rfl⟩ := List.getElem?_eq_some_iff.1 h
  exact List.drop_eq_getElem_cons hk
theorem readU_end (h : ¬ k < bs.length) : readU (bs.drop k) k v = (0, 0, 2) := by rw [List.drop_of_length_le (by omega)]; rfl
theorem readU_bad (h : bs[k]? = some c) (hb : (k = 9 ∧ 1 < c.toNat) ∨ (0 < k ∧ c.toNat = 0)) : readU (bs.drop k) k v = (0, 0, 3) := by
  rw [dropB h, readU, if_pos hb]
theorem readU_last (h : bs[k]? = some c) (hb : ¬ ((k = 9 ∧ 1 < c.toNat) ∨ (0 < k ∧ c.toNat = 0))) (hc : c.toNat < 128) : readU (bs.drop k) k v = (v + c.toNat % 128 * 2 ^ (7 * k), k + 1, 0) := by
  rw [dropB h, readU, if_neg hb, if_pos hc]
theorem readU_next (h : bs[k]? = some c) (hb : ¬ ((k = 9 ∧ 1 < c.toNat) ∨ (0 < k ∧ c.toNat = 0))) (hc : ¬ c.toNat < 128) : readU (bs.drop k) k v = readU (bs.drop (k + 1)) (k + 1) (v + c.toNat % 128 * 2 ^ (7 * k)) := by
  rw [dropB h, readU, if_neg hb, if_neg hc]
end

/-- what was read is a 64-bit number, and at most ten bytes were taken, none of them behind the end -/
theorem readU_in (bs : List UInt8) : ∀ i v, i ≤ 9 → v < 2 ^ (7 * i) → (readU bs i v).1 < U64 ∧ (readU bs i v).2.1 ≤ i + bs.length ∧ (readU bs i v).2.1 ≤ 10 := by
  induction bs with
  | nil => intro i v _ _; simp [readU, U64]
  | cons c cs ih =>
    intro i v hi hv
    unfold readU
    split
    · simp [U64]
    · next hb =>
      have hc : c.toNat % 128 < 128 := Nat.mod_lt _ (by decide)
      have hp : (2 : Nat) ^ (7 * (i + 1)) = 128 * 2 ^ (7 * i) := by rw [show 7 * (i + 1) = 7 + 7 * i by omega, Nat.pow_add]
      have hsum : v + c.toNat % 128 * 2 ^ (7 * i) < 2 ^ (7 * (i + 1)) := by
        rw [hp]
        have h1 : c.toNat % 128 * 2 ^ (7 * i) ≤ 127 * 2 ^ (7 * i) := Nat.mul_le_mul_right _ (by omega)
        omega
      split
      · refine ⟨?_, by simp only [List.length_cons]; omega, by show i + 1 ≤ 10; omega⟩
        rcases Nat.lt_or_ge i 9 with h9 | h9
        · have h2 : (2 : Nat) ^ (7 * (i + 1)) ≤ 2 ^ 63 := Nat.pow_le_pow_right (by decide) (by omega)
          unfold U64; simp only; omega
        · have : i = 9 := by omega
          subst this
          have h1 : c.toNat % 128 ≤ 1 := by
            have : c.toNat ≤ 1 := by
              rcases Nat.lt_or_ge 1 c.toNat with h | h
              · exact absurd (.inl ⟨rfl, h⟩) hb
              · exact h
            omega
          have h2 : c.toNat % 128 * 2 ^ (7 * 9) ≤ 1 * 2 ^ 63 := Nat.mul_le_mul h1 (by decide)
          unfold U64; simp only
          have h3 : v < 2 ^ 63 := hv
          omega
      · next hge =>
        have h9 : i < 9 := by
          rcases Nat.lt_or_ge i 9 with h | h
          · exact h
          · exact absurd (.inl ⟨by omega, by omega⟩) hb
        have := ih (i + 1) _ (by omega) hsum
        simp only [List.length_cons]
        omega
theorem decU_in (bs : List UInt8) : (decU bs).1 < U64 ∧ (decU bs).2.1 ≤ bs.length ∧ (decU bs).2.1 ≤ 10 := by
  have := readU_in bs 0 0 (by omega) (by decide)
  unfold decU; omega

theorem and127 (m : Fin 256) : bits .and .u8 (m.val : Int) 127 = ((m.val % 128 : Nat) : Int) := by revert m; decide +kernel
theorem and_127 {m : Nat} (h : m < 256) : bits .and .u8 (m : Int) 127 = ((m % 128 : Nat) : Int) := and127 ⟨m, h⟩
theorem or_u64 (a b : Nat) (ha : a < 18446744073709551616) (hb : b < 18446744073709551616) : bits .or .u64 (a : Int) (b : Int) = ((a ||| b : Nat) : Int) := by
  have e : ∀ x : Nat, x < 18446744073709551616 → (BitVec.ofInt 64 (x : Int)).toNat = x := fun x hx => by
    rw [BitVec.ofInt_natCast, BitVec.toNat_ofNat]; exact Nat.mod_eq_of_lt hx
  have hx : a ||| b < 2 ^ 64 := Nat.or_lt_two_pow (by omega) (by omega)
  show IntKind.u64.wrap ((BitVec.ofInt 64 (a : Int) ||| BitVec.ofInt 64 (b : Int)).toNat : Int) = _
  rw [BitVec.toNat_or, e a ha, e b hb, IntKind.wrap_u64]
  omega
theorem or_add (v x s : Nat) (hv : v < 2 ^ s) : v ||| x * 2 ^ s = v + x * 2 ^ s := by
  have := Nat.shiftLeft_add_eq_or_of_lt hv x
  rw [Nat.shiftLeft_eq] at this
  rw [Nat.or_comm, ← this]; omega
/-- one byte more: the term as the program writes it -/
theorem or_step {v m k : Nat} (hm : m < 256) (hv : v < 2 ^ (7 * k)) (hk : k < 9) :
    bits BinOp.or IntKind.u64 (v : Int) (IntKind.u64.wrap (IntKind.u64.wrap (bits BinOp.and IntKind.u8 (m : Int) 127) * 2 ^ (7 * k))) = ((v + m % 128 * 2 ^ (7 * k) : Nat) : Int) := by
  have h1 : (2 : Nat) ^ (7 * k) ≤ 2 ^ 56 := Nat.pow_le_pow_right (by decide) (by omega)
  have h2 : m % 128 * 2 ^ (7 * k) ≤ 127 * 2 ^ 56 := Nat.mul_le_mul (by omega) h1
  have e0 : IntKind.u64.wrap (((m % 128 : Nat) : Int)) = ((m % 128 : Nat) : Int) := u64_nat (by unfold U64; omega)
  have e1 : ((m % 128 : Nat) : Int) * 2 ^ (7 * k) = ((m % 128 * 2 ^ (7 * k) : Nat) : Int) := by simp
  rw [and_127 hm, e0, e1, u64_nat (by unfold U64; omega), or_u64 _ _ (by omega) (by omega), or_add _ _ _ hv]
theorem or_nine {v m : Nat} (hm : m ≤ 1) (hv : v < 2 ^ (7 * 9)) :
    bits BinOp.or IntKind.u64 (v : Int) (IntKind.u64.wrap (IntKind.u64.wrap (bits BinOp.and IntKind.u8 (m : Int) 127) * 9223372036854775808)) = ((v + m % 128 * 2 ^ (7 * 9) : Nat) : Int) := by
  have hv' : v < 9223372036854775808 := hv
  have e0 : IntKind.u64.wrap (((m % 128 : Nat) : Int)) = ((m % 128 : Nat) : Int) := u64_nat (by unfold U64; omega)
  have e1 : ((m % 128 : Nat) : Int) * 9223372036854775808 = ((m % 128 * 2 ^ (7 * 9) : Nat) : Int) := by simp
  have h2 : m % 128 * 2 ^ (7 * 9) ≤ 1 * 2 ^ 63 := Nat.mul_le_mul (by omega) (by decide)
  rw [and_127 (by omega), e0, e1, u64_nat (by unfold U64; omega), or_u64 _ _ (by omega) (by omega), or_add _ _ _ hv]
theorem pow_next {v m k : Nat} (hv : v < 2 ^ (7 * k)) : v + m % 128 * 2 ^ (7 * k) < 2 ^ (7 * (k + 1)) := by
  have hp : (2 : Nat) ^ (7 * (k + 1)) = 128 * 2 ^ (7 * k) := by rw [show 7 * (k + 1) = 7 + 7 * k by omega, Nat.pow_add]
  have h1 : m % 128 * 2 ^ (7 * k) ≤ 127 * 2 ^ (7 * k) := Nat.mul_le_mul_right _ (by omega)
  omega
end Go.Proofs.Ytagmocofmedmjaa
