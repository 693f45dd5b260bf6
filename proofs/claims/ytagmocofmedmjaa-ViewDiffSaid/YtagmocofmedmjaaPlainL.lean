/- What the decoding of signed numbers, lengths, lists and views computes. -/
import Derived.Test.YtagmocofmedmjaaPlainR
import Derived.Test.YtagmocofmedmjaaPlain2
namespace Go.Proofs.Ytagmocofmedmjaa
open Go.RowKit

theorem and_one (u : Nat) (h : u < 18446744073709551616) : bits BinOp.and IntKind.u64 (u : Int) 1 = ((u % 2 : Nat) : Int) := by
  have e : (BitVec.ofInt 64 (u : Int)).toNat = u := by rw [BitVec.ofInt_natCast, BitVec.toNat_ofNat]; exact Nat.mod_eq_of_lt h
  show IntKind.u64.wrap ((BitVec.ofInt 64 (u : Int) &&& BitVec.ofInt 64 1).toNat : Int) = _
  have e1 : (BitVec.ofInt 64 1).toNat = 1 := by decide
  rw [BitVec.toNat_and, e, e1, Nat.and_one_is_mod, IntKind.wrap_u64]
  omega
theorem xor_i64_zero (a : Nat) (h : a < 9223372036854775808) : bits BinOp.xor IntKind.i64 (a : Int) 0 = (a : Int) := by
  have e : (BitVec.ofInt 64 (a : Int)).toNat = a := by rw [BitVec.ofInt_natCast, BitVec.toNat_ofNat]; exact Nat.mod_eq_of_lt (by omega)
  show IntKind.i64.wrap ((BitVec.ofInt 64 (a : Int) ^^^ BitVec.ofInt 64 0).toNat : Int) = _
  simp only [BitVec.ofInt_ofNat, BitVec.xor_zero, e, IntKind.wrap_i64]
  omega
theorem xor_i64_ones (a : Nat) (h : a < 9223372036854775808) : bits BinOp.xor IntKind.i64 (a : Int) (-1) = -(a : Int) - 1 := by
  have e : (BitVec.ofInt 64 (a : Int)).toNat = a := by rw [BitVec.ofInt_natCast, BitVec.toNat_ofNat]; exact Nat.mod_eq_of_lt (by omega)
  show IntKind.i64.wrap ((BitVec.ofInt 64 (a : Int) ^^^ BitVec.ofInt 64 (-1)).toNat : Int) = _
  have e1 : BitVec.ofInt 64 (-1) = BitVec.allOnes 64 := by decide
  rw [e1, BitVec.xor_allOnes, BitVec.toNat_not, e, IntKind.wrap_i64]
  omega
theorem unzig_bits {u : Nat} (h : u < U64) : bits BinOp.xor IntKind.i64 (wrap64 ((u : Int) / 2)) (wrap64 (-wrap64 (bits BinOp.and IntKind.u64 (u : Int) 1))) = unzig u := by
  unfold U64 at h
  have h1 : wrap64 ((u : Int) / 2) = ((u / 2 : Nat) : Int) := by unfold wrap64; omega
  rw [and_one u h, h1]
  unfold unzig
  split
  · next hm => rw [hm, show wrap64 (-wrap64 (((1 : Nat) : Int))) = -1 by unfold wrap64; omega, xor_i64_ones _ (by omega)]
  · next hm => rw [show u % 2 = 0 by omega, show wrap64 (-wrap64 (((0 : Nat) : Int))) = 0 by unfold wrap64; omega, xor_i64_zero _ (by omega)]

theorem readU_err (bs : List UInt8) : ∀ i v, (readU bs i v).2.2 ≠ 0 → (readU bs i v).1 = 0 ∧ (readU bs i v).2.1 = 0 := by
  induction bs with
  | nil => intro i v _; exact ⟨rfl, rfl⟩
  | cons c cs ih =>
    intro i v
    unfold readU
    split
    · intro _; exact ⟨rfl, rfl⟩
    · split
      · intro h; exact absurd rfl h
      · exact ih _ _
theorem decU_err {bs : List UInt8} (h : (decU bs).2.2 ≠ 0) : (decU bs).1 = 0 ∧ (decU bs).2.1 = 0 := readU_err bs 0 0 h

/-- a signed number, the bytes that it took, the error -/
def decI (bs : List UInt8) : Int × Nat × Int := (unzig (decU bs).1, (decU bs).2.1, (decU bs).2.2)
/-- a length of at most m -/
def decN (bs : List UInt8) (m : Nat) : Nat × Nat × Int :=
  if (decU bs).2.2 ≠ 0 then (0, 0, (decU bs).2.2) else if m < (decU bs).1 then (0, 0, 5) else ((decU bs).1, (decU bs).2.1, 0)
/-- c numbers more, behind l, from byte n on -/
def readL (bs : List UInt8) : Nat → List Int → Nat → List Int × Nat × Int
  | 0, l, n => (l, n, 0)
  | c + 1, l, n => if (decI (bs.drop n)).2.2 = 0 then readL bs c (l ++ [(decI (bs.drop n)).1]) (n + (decI (bs.drop n)).2.1) else ([], 0, (decI (bs.drop n)).2.2)
def decL (bs : List UInt8) (m : Nat) : List Int × Nat × Int :=
  if (decN bs m).2.2 ≠ 0 then ([], 0, (decN bs m).2.2) else readL bs (decN bs m).1 [] (decN bs m).2.1
/-- a view: its number, its members, the bytes, the error -/
def decV (bs : List UInt8) : Int × List Int × Nat × Int :=
  if (decU bs).2.2 ≠ 0 then (0, [], 0, (decU bs).2.2)
  else if 1099511627776 < (decU bs).1 then (0, [], 0, 3)
  else if (decL (bs.drop (decU bs).2.1) 16).2.2 ≠ 0 then (0, [], 0, (decL (bs.drop (decU bs).2.1) 16).2.2)
  else if idsB (decL (bs.drop (decU bs).2.1) 16).1 16 = false then (0, [], 0, 3)
  else ((decU bs).1, (decL (bs.drop (decU bs).2.1) 16).1, (decU bs).2.1 + (decL (bs.drop (decU bs).2.1) 16).2.1, 0)

theorem decN_err {bs : List UInt8} {m : Nat} (h : (decN bs m).2.2 ≠ 0) : (decN bs m).1 = 0 ∧ (decN bs m).2.1 = 0 := by
  unfold decN at *
  split at h
  · next h1 => rw [if_pos h1]; exact ⟨rfl, rfl⟩
  · next h1 =>
    rw [if_neg h1]
    split at h
    · next h2 => rw [if_pos h2]; exact ⟨rfl, rfl⟩
    · exact absurd rfl h
theorem decN_in (bs : List UInt8) (m : Nat) : (decN bs m).1 ≤ m ∧ (decN bs m).2.1 ≤ bs.length := by
  have := decU_in bs
  unfold decN
  split
  · exact ⟨Nat.zero_le _, Nat.zero_le _⟩
  · split
    · exact ⟨Nat.zero_le _, Nat.zero_le _⟩
    · exact ⟨by omega, this.2.1⟩
theorem decI_in (bs : List UInt8) : (decI bs).2.1 ≤ bs.length := (decU_in bs).2.1
theorem readL_step {bs : List UInt8} {c n : Nat} {l : List Int} (h : (decI (bs.drop n)).2.2 = 0) : readL bs (c + 1) l n = readL bs c (l ++ [(decI (bs.drop n)).1]) (n + (decI (bs.drop n)).2.1) := by rw [readL, if_pos h]
theorem readL_fail {bs : List UInt8} {c n : Nat} {l : List Int} (h : (decI (bs.drop n)).2.2 ≠ 0) : readL bs (c + 1) l n = ([], 0, (decI (bs.drop n)).2.2) := by rw [readL, if_neg h]
end Go.Proofs.Ytagmocofmedmjaa
