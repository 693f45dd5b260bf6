/- Bits: how many are 1, and that sets with many elements meet. -/
import Derived.Test.YtagmocofmedmjaaPlain
namespace Go.Proofs.Ytagmocofmedmjaa
def popc (x : Nat) : Nat := if h : x = 0 then 0 else x % 2 + popc (x / 2)
termination_by x
decreasing_by omega
theorem popc_zero : popc 0 = 0 := by rw [popc, dif_pos rfl]
theorem popc_pos {x : Nat} (h : 0 < x) : popc x = x % 2 + popc (x / 2) := by rw [popc, dif_neg (by omega)]
theorem popc_two (x : Nat) : popc x = x % 2 + popc (x / 2) := by
  rcases Nat.eq_zero_or_pos x with h | h
  · subst h; rw [popc_zero]
  · exact popc_pos h
theorem and_half (x y : Nat) : (x &&& y) / 2 = x / 2 &&& y / 2 := by rw [Nat.and_div_two]
theorem and_low (x y : Nat) : (x &&& y) % 2 = (x % 2) * (y % 2) := by
  have h := Nat.and_mod_two_pow (a := x) (b := y) (n := 1)
  simp only [Nat.pow_one] at h
  rw [h]
  rcases Nat.mod_two_eq_zero_or_one x with h1 | h1 <;> rcases Nat.mod_two_eq_zero_or_one y with h2 | h2 <;> rw [h1, h2] <;> decide
theorem meet2 (k : Nat) : ∀ x y, x < 2 ^ k → y < 2 ^ k → x &&& y = 0 → popc x + popc y ≤ k := by
  induction k with
  | zero => intro x y hx hy _; simp at hx hy; subst hx hy; rw [popc_zero]; omega
  | succ k ih =>
    intro x y hx hy h
    have h1 := and_half x y
    have h2 := and_low x y
    rw [h] at h1 h2
    rw [Nat.pow_succ] at hx hy
    have := ih (x / 2) (y / 2) (by omega) (by omega) (by omega)
    rw [popc_two x, popc_two y]
    rcases Nat.mod_two_eq_zero_or_one x with h3 | h3 <;> rcases Nat.mod_two_eq_zero_or_one y with h4 | h4 <;> rw [h3, h4] at h2 ⊢ <;> omega
theorem meet3 (k : Nat) : ∀ x y z, x < 2 ^ k → y < 2 ^ k → z < 2 ^ k → x &&& y &&& z = 0 → popc x + popc y + popc z ≤ 2 * k := by
  induction k with
  | zero => intro x y z hx hy hz _; simp at hx hy hz; subst hx hy hz; rw [popc_zero]; omega
  | succ k ih =>
    intro x y z hx hy hz h
    have h1 := and_half (x &&& y) z
    have h2 := and_low (x &&& y) z
    rw [h, and_half] at h1
    rw [h, and_low] at h2
    rw [Nat.pow_succ] at hx hy hz
    have := ih (x / 2) (y / 2) (z / 2) (by omega) (by omega) (by omega) (by omega)
    rw [popc_two x, popc_two y, popc_two z]
    rcases Nat.mod_two_eq_zero_or_one x with h3 | h3 <;> rcases Nat.mod_two_eq_zero_or_one y with h4 | h4 <;> rcases Nat.mod_two_eq_zero_or_one z with h5 | h5 <;> rw [h3, h4, h5] at h2 ⊢ <;> omega
theorem popc_le (k : Nat) : ∀ x, x < 2 ^ k → popc x ≤ k := by
  intro x hx
  have := meet2 k x 0 hx (Nat.two_pow_pos k) (by simp)
  rw [popc_zero] at this; exact this
theorem maj_fq {k : Int} (h1 : 1 ≤ k) (h2 : k ≤ 16) : 1 ≤ majZ k ∧ majZ k ≤ fqZ k ∧ fqZ k ≤ k ∧ k < 2 * majZ k ∧ 2 * k < 2 * fqZ k + majZ k := by
  unfold majZ fqZ; rw [if_pos ⟨h1, h2⟩, if_pos ⟨h1, h2⟩]; omega
end Go.Proofs.Ytagmocofmedmjaa
