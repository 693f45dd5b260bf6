/- Arithmetic of the encoding of signed numbers. -/
import Derived.Test.YtagmocofmedmjaaWire1
import Derived.Laws.BitsAllLaws
namespace Go.Proofs.Ytagmocofmedmjaa
open Go.RowKit

/-- the unsigned number that stands for a signed one -/
def zig (n : Int) : Nat := if n < 0 then (2 * (-(n + 1)) + 1).toNat else (2 * n).toNat
def I64 (n : Int) : Prop := -9223372036854775808 ≤ n ∧ n ≤ 9223372036854775807
theorem zig_lt {n : Int} (h : I64 n) : zig n < U64 := by
  unfold zig U64; unfold I64 at h; split <;> omega
theorem xor_zero (a : Nat) (ha : a < 18446744073709551616) : bits .xor .u64 (a : Int) 0 = (a : Int) := by
  show IntKind.u64.wrap ((BitVec.ofInt 64 (a : Int) ^^^ BitVec.ofInt 64 0).toNat : Int) = _
  have e : (BitVec.ofInt 64 (a : Int)).toNat = a := by rw [BitVec.ofInt_natCast, BitVec.toNat_ofNat]; exact Nat.mod_eq_of_lt ha
  simp only [BitVec.ofInt_ofNat, BitVec.xor_zero, e, IntKind.wrap_u64]
  omega
theorem xor_ones (a : Nat) (ha : a < 18446744073709551616) : bits .xor .u64 (a : Int) 18446744073709551615 = ((18446744073709551615 - a : Nat) : Int) := by
  show IntKind.u64.wrap ((BitVec.ofInt 64 (a : Int) ^^^ BitVec.ofInt 64 18446744073709551615).toNat : Int) = _
  have e : (BitVec.ofInt 64 (a : Int)).toNat = a := by rw [BitVec.ofInt_natCast, BitVec.toNat_ofNat]; exact Nat.mod_eq_of_lt ha
  have e1 : BitVec.ofInt 64 18446744073709551615 = BitVec.allOnes 64 := by decide
  rw [e1, BitVec.xor_allOnes, BitVec.toNat_not, e, IntKind.wrap_u64]
  omega
theorem zig_bits {n : Int} (h : I64 n) : bits BinOp.xor IntKind.u64 (IntKind.u64.wrap (IntKind.u64.wrap n * 2)) (IntKind.u64.wrap (n / 9223372036854775808)) = (zig n : Int) := by
  unfold I64 at h
  unfold zig
  simp only [IntKind.wrap_u64]
  split
  · have h1 : n / 9223372036854775808 % 18446744073709551616 = 18446744073709551615 := by omega
    have h2 : n % 18446744073709551616 * 2 % 18446744073709551616 = ((18446744073709551616 + 2 * n).toNat : Int) := by omega
    rw [h1, h2, xor_ones _ (by omega)]
    omega
  · have h1 : n / 9223372036854775808 % 18446744073709551616 = 0 := by omega
    have h2 : n % 18446744073709551616 * 2 % 18446744073709551616 = ((2 * n).toNat : Int) := by omega
    rw [h1, h2, xor_zero _ (by omega)]
theorem zig_neg {n : Int} (h : I64 n) (hn : n < 0) : IntKind.u64.wrap (IntKind.u64.wrap (IntKind.u64.wrap (wrap64 (-wrap64 (n + 1))) * 2) + 1) = (zig n : Int) := by
  unfold I64 at h
  unfold zig
  rw [if_pos hn]
  simp only [IntKind.wrap_u64, wrap64]
  omega
theorem zig_pos {n : Int} (h : I64 n) (hn : 0 ≤ n) : IntKind.u64.wrap (IntKind.u64.wrap n * 2) = (zig n : Int) := by
  unfold I64 at h
  unfold zig
  rw [if_neg (by omega)]
  simp only [IntKind.wrap_u64]
  omega
/-- the signed number that an unsigned one stands for -/
def unzig (n : Nat) : Int := if n % 2 = 1 then -((n / 2 : Nat) : Int) - 1 else ((n / 2 : Nat) : Int)
theorem unzig_odd {n : Nat} (h : n < U64) (hn : ((n : Int) % 2 == 1) = true) : wrap64 (wrap64 (-wrap64 (IntKind.u64.wrap ((n : Int) / 2))) - 1) = unzig n := by
  unfold U64 at h
  unfold unzig
  simp only [beq_iff_eq] at hn
  rw [if_pos (by omega)]
  simp only [IntKind.wrap_u64, wrap64]
  omega
theorem unzig_even {n : Nat} (h : n < U64) (hn : ((n : Int) % 2 == 1) = false) : wrap64 (IntKind.u64.wrap ((n : Int) / 2)) = unzig n := by
  unfold U64 at h
  unfold unzig
  simp only [beq_eq_false_iff_ne] at hn
  rw [if_neg (by omega)]
  simp only [IntKind.wrap_u64, wrap64]
  omega
theorem unzig_in {n : Nat} (h : n < U64) : I64 (unzig n) := by
  unfold U64 at h; unfold unzig I64; split <;> omega
end Go.Proofs.Ytagmocofmedmjaa
