/- For every input the statement ViewQuorums returns true and leaves its arguments as they were. Conditions: none. -/
import Derived.Test.YtagmocofmedmjaaAwake3
import Derived.Test.YtagmocofmedmjaaPlainQ
import Derived.Test.YtagmocofmedmjaaRowKit
namespace Go.Proofs.Ytagmocofmedmjaa.viewQuorums
open Go.RowKit

theorem and_u32 (a b : Nat) (ha : a < 4294967296) (hb : b < 4294967296) : bits BinOp.and IntKind.u32 (a : Int) (b : Int) = ((a &&& b : Nat) : Int) := by
  have e : ∀ x : Nat, x < 4294967296 → (BitVec.ofInt 32 (x : Int)).toNat = x := fun x hx => by
    rw [BitVec.ofInt_natCast, BitVec.toNat_ofNat]; exact Nat.mod_eq_of_lt hx
  have hx : a &&& b < 2 ^ 32 := Nat.and_lt_two_pow _ (by omega)
  show IntKind.u32.wrap ((BitVec.ofInt 32 (a : Int) &&& BitVec.ofInt 32 (b : Int)).toNat : Int) = _
  rw [BitVec.toNat_and, e a ha, e b hb, IntKind.wrap_u32']
  omega
theorem and_1 (a : Nat) (ha : a < 4294967296) : bits BinOp.and IntKind.u32 (a : Int) 1 = ((a % 2 : Nat) : Int) := by
  have := and_u32 a 1 ha (by decide)
  rw [Nat.and_one_is_mod] at this; exact this
theorem and_mask (a m : Nat) (ha : a < 65536) (hm : m ≤ 16) : bits BinOp.and IntKind.u32 (a : Int) (((2 : Int) ^ m - 1) % 4294967296) = ((a &&& (2 ^ m - 1) : Nat) : Int) := by
  have hp : (2 : Nat) ^ m ≤ 2 ^ 16 := Nat.pow_le_pow_right (by decide) hm
  have hp1 : 1 ≤ (2 : Nat) ^ m := Nat.one_le_two_pow
  have e : ((2 : Int) ^ m - 1) % 4294967296 = ((2 ^ m - 1 : Nat) : Int) := by
    have : ((2 : Int) ^ m) = ((2 ^ m : Nat) : Int) := by simp
    rw [this]; omega
  rw [e, and_u32 _ _ (by omega) (by omega)]
theorem mask_lt (a m : Nat) : a &&& (2 ^ m - 1) < 2 ^ m := by
  have h1 : 1 ≤ (2 : Nat) ^ m := Nat.one_le_two_pow
  have h2 : a &&& (2 ^ m - 1) ≤ 2 ^ m - 1 := Nat.and_le_right
  omega

set_option maxRecDepth 100000 in
theorem ones_any (x : Nat) (w : World) (hx : Hid (x < 65536)) :
    Calls Try.prog 28 #[.int .u32 (x : Int)] w fun e w' => e = .returned (.int .i64 (popc x : Int)) ∧ w = w' := by
  have HP := Lib.hid (popc_le 16 x hx.out)
  go_enter Try.func28, Try.ntmps28
  go_wp2
  go_loop [0, 3] (fun y m => ∃ a b : Nat, y = .int .u32 (a : Int) ∧ m = .int .i64 (b : Int) ∧ Hid (a < 65536) ∧ Hid (b + popc a = popc x)) (fun y _ => (intOf y).toNat)
  case atStart => exact ⟨x, 0, rfl, rfl, hx, by rw [Hid]; omega⟩
  case round =>
    obtain ⟨a, b, rfl, rfl, HA, HR⟩ := hrel
    by_cases h : 0 < a
    · have hd : decide ((0 : Int) < (a : Int)) = true := by simp; omega
      have hb : b ≤ 16 := by have := HR.out; have := HP.out; omega
      have h1 := and_1 a (by have := HA.out; omega)
      have h2 : a % 2 ≤ 1 := by omega
      go_wp2
      go_round
      case rel => exact ⟨a / 2, b + a % 2, by go_num, by go_num, by have := HA.out; show a / 2 < 65536; omega, by have := HR.out; rw [popc_pos h] at this; show b + a % 2 + popc (a / 2) = popc x; omega⟩
      case measure => simp [intOf]; omega
    · have hd : decide ((0 : Int) < (a : Int)) = false := by simp; omega
      have ha : a = 0 := by omega
      have HF : Hid (b = popc x) := by have := HR.out; rw [ha, popc_zero] at this; rw [Hid]; omega
      clear ha
      go_wp2
      go_ret
      exact ⟨ret_int (by rw [HF.out]), rfl⟩

set_option maxRecDepth 100000 in
set_option maxHeartbeats 1000000 in
theorem walk0 (n a b c : Nat) (w : World) (hn : n < 256) (ha : a < 65536) (hb : b < 65536) (hc : c < 65536) :
    Calls Try.prog 4 #[.int .u8 (n : Int), .int .u16 (a : Int), .int .u16 (b : Int), .int .u16 (c : Int)] w fun e w' => e = .returned (.bool true) ∧ Ext w w' := by
  go_enter Try.func4, Try.ntmps4
  go_wp2_with fail
  refine (awake3_any w).mono ?_
  rintro e w1 ⟨rfl, hx1⟩
  have X1 := Lib.hid hx1
  clear hx1
  go_wp2_with fail
  rw [and_mask a (1 + n % 16) ha (by omega), and_mask b (1 + n % 16) hb (by omega), and_mask c (1 + n % 16) hc (by omega)]
  have bX := mask_lt a (1 + n % 16)
  have bY := mask_lt b (1 + n % 16)
  have bZ := mask_lt c (1 + n % 16)
  rw [show (1 : Int) + (n : Int) % 16 = ((1 + n % 16 : Nat) : Int) by omega]
  have hk1 : 1 ≤ 1 + n % 16 := by omega
  have hk2 : 1 + n % 16 ≤ 16 := by omega
  generalize a &&& (2 ^ (1 + n % 16) - 1) = X at *
  generalize b &&& (2 ^ (1 + n % 16) - 1) = Y at *
  generalize c &&& (2 ^ (1 + n % 16) - 1) = Z at *
  generalize 1 + n % 16 = k at *
  have hp : (2 : Nat) ^ k ≤ 2 ^ 16 := Nat.pow_le_pow_right (by decide) hk2
  have HX := Lib.hid (show X < 65536 by omega)
  have HY := Lib.hid (show Y < 65536 by omega)
  have HZ := Lib.hid (show Z < 65536 by omega)
  have M2 := Lib.hid (fun h => meet2 k X Y bX bY h)
  have M3 := Lib.hid (fun h => meet3 k X Y Z bX bY bZ h)
  have lX := popc_le k X bX
  have lY := popc_le k Y bY
  have lZ := popc_le k Z bZ
  have hmf := maj_fq (k := (k : Int)) (by omega) (by omega)
  clear bX bY bZ hp
  have eXY := and_u32 X Y (by have := HX.out; omega) (by have := HY.out; omega)
  have hlt : X &&& Y < 65536 := Nat.lt_of_le_of_lt Nat.and_le_left HX.out
  have eXYZ := and_u32 (X &&& Y) Z (by omega) (by have := HZ.out; omega)
  clear hlt
  have f1 : 1 ≤ majZ (k : Int) := hmf.1
  have f2 : majZ (k : Int) ≤ fqZ (k : Int) := hmf.2.1
  have f3 : fqZ (k : Int) ≤ (k : Int) := hmf.2.2.1
  have f4 := Lib.hid hmf.2.2.2
  clear hmf
  have OX := Lib.hid (fun w => ones_any X w HX)
  have OY := Lib.hid (fun w => ones_any Y w HY)
  have OZ := Lib.hid (fun w => ones_any Z w HZ)
  generalize popc X = px at *
  generalize popc Y = py at *
  generalize popc Z = pz at *
  by_cases hX : majZ (k : Int) ≤ (px : Int)
  · by_cases hY : majZ (k : Int) ≤ (py : Int)
    · have hne : ((X &&& Y : Nat) : Int) ≠ 0 := fun h => by have := M2.out (by omega); have := f4.out.1; omega
      have hnb : (((X &&& Y : Nat) : Int) == 0) = false := by simpa using hne
      clear hne
      by_cases qX : fqZ (k : Int) ≤ (px : Int)
      · by_cases qY : fqZ (k : Int) ≤ (py : Int)
        · by_cases qZ : majZ (k : Int) ≤ (pz : Int)
          · have hne : ((X &&& Y &&& Z : Nat) : Int) ≠ 0 := fun h => by have := M3.out (by omega); have := f4.out.2; omega
            have hnc : (((X &&& Y &&& Z : Nat) : Int) != 0) = true := by simpa using hne
            clear hne
            go_wp2_with (first
              | (go_at_call 24; refine (majority_any _ _).mono ?_; rintro e w' ⟨rfl, rfl⟩)
              | (go_at_call 26; refine (fastQuorum_any _ _).mono ?_; rintro e w' ⟨rfl, rfl⟩)
              | (go_at_call 28; (first | (with_reducible refine (OX.out _).mono ?_) | (with_reducible refine (OY.out _).mono ?_) | (with_reducible refine (OZ.out _).mono ?_)); rintro e w' ⟨rfl, rfl⟩))
            go_ret
            exact ⟨rfl, X1.out⟩
          · have qZ' : (pz : Int) < majZ (k : Int) := by omega
            clear qZ
            go_wp2_with (first
              | (go_at_call 24; refine (majority_any _ _).mono ?_; rintro e w' ⟨rfl, rfl⟩)
              | (go_at_call 26; refine (fastQuorum_any _ _).mono ?_; rintro e w' ⟨rfl, rfl⟩)
              | (go_at_call 28; (first | (with_reducible refine (OX.out _).mono ?_) | (with_reducible refine (OY.out _).mono ?_) | (with_reducible refine (OZ.out _).mono ?_)); rintro e w' ⟨rfl, rfl⟩))
            go_ret
            exact ⟨rfl, X1.out⟩
        · have qY' : (py : Int) < fqZ (k : Int) := by omega
          clear qY
          go_wp2_with (first
            | (go_at_call 24; refine (majority_any _ _).mono ?_; rintro e w' ⟨rfl, rfl⟩)
            | (go_at_call 26; refine (fastQuorum_any _ _).mono ?_; rintro e w' ⟨rfl, rfl⟩)
            | (go_at_call 28; (first | (with_reducible refine (OX.out _).mono ?_) | (with_reducible refine (OY.out _).mono ?_) | (with_reducible refine (OZ.out _).mono ?_)); rintro e w' ⟨rfl, rfl⟩))
          go_ret
          exact ⟨rfl, X1.out⟩
      · have qX' : (px : Int) < fqZ (k : Int) := by omega
        clear qX
        go_wp2_with (first
          | (go_at_call 24; refine (majority_any _ _).mono ?_; rintro e w' ⟨rfl, rfl⟩)
          | (go_at_call 26; refine (fastQuorum_any _ _).mono ?_; rintro e w' ⟨rfl, rfl⟩)
          | (go_at_call 28; (first | (with_reducible refine (OX.out _).mono ?_) | (with_reducible refine (OY.out _).mono ?_) | (with_reducible refine (OZ.out _).mono ?_)); rintro e w' ⟨rfl, rfl⟩))
        go_ret
        exact ⟨rfl, X1.out⟩
    · have hY' : (py : Int) < majZ (k : Int) := by omega
      clear hY
      by_cases qX : fqZ (k : Int) ≤ (px : Int)
      · have qY' : (py : Int) < fqZ (k : Int) := by omega
        go_wp2_with (first
          | (go_at_call 24; refine (majority_any _ _).mono ?_; rintro e w' ⟨rfl, rfl⟩)
          | (go_at_call 26; refine (fastQuorum_any _ _).mono ?_; rintro e w' ⟨rfl, rfl⟩)
          | (go_at_call 28; (first | (with_reducible refine (OX.out _).mono ?_) | (with_reducible refine (OY.out _).mono ?_) | (with_reducible refine (OZ.out _).mono ?_)); rintro e w' ⟨rfl, rfl⟩))
        go_ret
        exact ⟨rfl, X1.out⟩
      · have qX' : (px : Int) < fqZ (k : Int) := by omega
        clear qX
        go_wp2_with (first
          | (go_at_call 24; refine (majority_any _ _).mono ?_; rintro e w' ⟨rfl, rfl⟩)
          | (go_at_call 26; refine (fastQuorum_any _ _).mono ?_; rintro e w' ⟨rfl, rfl⟩)
          | (go_at_call 28; (first | (with_reducible refine (OX.out _).mono ?_) | (with_reducible refine (OY.out _).mono ?_) | (with_reducible refine (OZ.out _).mono ?_)); rintro e w' ⟨rfl, rfl⟩))
        go_ret
        exact ⟨rfl, X1.out⟩
  · have hX' : (px : Int) < majZ (k : Int) := by omega
    have qX' : (px : Int) < fqZ (k : Int) := by omega
    clear hX
    go_wp2_with (first
      | (go_at_call 24; refine (majority_any _ _).mono ?_; rintro e w' ⟨rfl, rfl⟩)
      | (go_at_call 26; refine (fastQuorum_any _ _).mono ?_; rintro e w' ⟨rfl, rfl⟩)
      | (go_at_call 28; (first | (with_reducible refine (OX.out _).mono ?_) | (with_reducible refine (OY.out _).mono ?_) | (with_reducible refine (OZ.out _).mono ?_)); rintro e w' ⟨rfl, rfl⟩))
    go_ret
    exact ⟨rfl, X1.out⟩

theorem walk (n : Int) (hn : 0 ≤ n ∧ n ≤ 255) (a : Int) (ha : 0 ≤ a ∧ a ≤ 65535) (b : Int) (hb : 0 ≤ b ∧ b ≤ 65535) (c : Int) (hc : 0 ≤ c ∧ c ≤ 65535) (w W : World) (hW : w = W) :
    Calls Try.prog 4 #[.int .u8 n, .int .u16 a, .int .u16 b, .int .u16 c] W fun e w' => e = .returned (.bool true) ∧ Ext W w' := by
  subst hW
  have := walk0 n.toNat a.toNat b.toNat c.toNat w (by omega) (by omega) (by omega) (by omega)
  rw [Int.toNat_of_nonneg hn.1, Int.toNat_of_nonneg ha.1, Int.toNat_of_nonneg hb.1, Int.toNat_of_nonneg hc.1] at this
  exact this
section
open Go.WideShapes Go.ChangeShapes
variable {H : Type} {enc : TypeId × Value → H} {w : World} {base : Nat} {spare : Nat → Bool} {held : Bool}
theorem argU8 {r : Reach} {b0 : Nat} {v : Value} {d : DataW H} {p : List MemPlace} (hv : Value.okWide Try.prog w r b0 5 v) (h : DataW.Trod enc Try.prog w base spare held 5 v d p) : ∃ n, v = .int .u8 n ∧ (0 ≤ n ∧ n ≤ 255) := by
  obtain ⟨n, rfl, _, _, h3⟩ := open_int Try.underlying5 hv h
  exact ⟨n, rfl, bounds_u8 h3⟩
theorem argU16 {r : Reach} {b0 : Nat} {v : Value} {d : DataW H} {p : List MemPlace} (hv : Value.okWide Try.prog w r b0 30 v) (h : DataW.Trod enc Try.prog w base spare held 30 v d p) : ∃ n, v = .int .u16 n ∧ (0 ≤ n ∧ n ≤ 65535) := by
  obtain ⟨n, rfl, _, _, h3⟩ := open_int Try.underlying30 hv h
  exact ⟨n, rfl, bounds_u16 h3⟩
end

open Go.ChangeShapes Go.WideShapes Go.ChangeAt
set_option maxRecDepth 100000 in
theorem lifted (os : Os) (started : os.Started) (H : Type) (enc : TypeId × Value → H) :
    ReturnsInHanded {} Try.checked os 4 .any (Rows.viewQuorumsSpec.pre6 enc Try.prog Try.f4 Rows.viewQuorumsRow.domain false) (Rows.viewQuorumsSpec.post enc Try.prog Try.f4 false true false false) := by
  refine returnsInHanded_of_change (C := Try.checked) own started (by kernel_rfl) Try.func4
    (ChangeSpec.witness6 (enc := enc) (C := Try.checked) false ⟨#[], #[.int .u8 0, .int .u16 0, .int .u16 0, .int .u16 0], []⟩ 8 (by kernel_rfl) (by kernel_rfl) (by kernel_rfl) (by kernel_rfl)) ?_
  intro W base args ds gs before hval0 hW hcnd _
  have hval : ∀ (j : Nat) t v, Try.f4.params[j]? = some t → args[j]? = some v → Value.okWide Try.prog W .any base t v := hval0
  have hW' := hW
  obtain ⟨p, q, hA0, hV, rfl, hfz, hnd⟩ := hW
  have hA : DataW.TrodAll enc Try.prog W 0 (fun _ => true) true Try.f4.params.toList args.toList ds p := hA0
  rw [Try.params4] at hA hval
  obtain ⟨v0, vs0, d0, ds0, p0, q0, hargs, rfl, rfl, h0, r0⟩ := trodAll_cons hA
  obtain ⟨v1, vs1, d1, ds1, p1, q1, rfl, rfl, rfl, h1, r1⟩ := trodAll_cons r0
  obtain ⟨v2, vs2, d2, ds2, p2, q2, rfl, rfl, rfl, h2, r2⟩ := trodAll_cons r1
  obtain ⟨v3, vs3, d3, ds3, p3, q3, rfl, rfl, rfl, h3, r3⟩ := trodAll_cons r2
  obtain ⟨rfl, rfl, rfl⟩ := trodAll_nil r3
  obtain rfl : args = #[v0, v1, v2, v3] := by cases args; simp_all
  obtain ⟨rfl, rfl⟩ := trodVars_none hV
  have lt0 : ∀ x ∈ p0, x.block < W.heap.size := by obtain ⟨m, hm⟩ := h0; exact DataW.trod_lt m _ _ _ hm
  have lt1 : ∀ x ∈ p1, x.block < W.heap.size := by obtain ⟨m, hm⟩ := h1; exact DataW.trod_lt m _ _ _ hm
  have lt2 : ∀ x ∈ p2, x.block < W.heap.size := by obtain ⟨m, hm⟩ := h2; exact DataW.trod_lt m _ _ _ hm
  have lt3 : ∀ x ∈ p3, x.block < W.heap.size := by obtain ⟨m, hm⟩ := h3; exact DataW.trod_lt m _ _ _ hm
  obtain ⟨n0, e0, hi0⟩ := argU8 (hval 0 5 v0 rfl rfl) h0
  obtain ⟨n1, e1, hi1⟩ := argU16 (hval 1 30 v1 rfl rfl) h1
  obtain ⟨n2, e2, hi2⟩ := argU16 (hval 2 30 v2 rfl rfl) h2
  obtain ⟨n3, e3, hi3⟩ := argU16 (hval 3 30 v3 rfl rfl) h3
  clear hA0 hval0
  have wk := walk n0 hi0 n1 hi1 n2 hi2 n3 hi3 W W rfl
  rw [← e0, ← e1, ← e2, ← e3] at wk
  refine wk.mono fun e W' ⟨he, bel⟩ => ?_
  subst he
  exact ⟨_, rfl, _, _, _, [], _, [], hW', trodAll_mk1 (shut_bool Try.underlying4 _), (trodAll_cons_mk (Below.trod laidOut (by kernel_rfl) (of_decide_eq_true (by kernel_rfl)) h0 bel lt0) (trodAll_cons_mk (Below.trod laidOut (by kernel_rfl) (of_decide_eq_true (by kernel_rfl)) h1 bel lt1) (trodAll_cons_mk (Below.trod laidOut (by kernel_rfl) (of_decide_eq_true (by kernel_rfl)) h2 bel lt2) (trodAll_cons_mk (Below.trod laidOut (by kernel_rfl) (of_decide_eq_true (by kernel_rfl)) h3 bel lt3) trodAll_mk0)))), rfl, bel.frame _, fun h => by cases h⟩

theorem over : Rows.viewQuorumsRow.holds Try.pinned (OpenSpec.ofChange Rows.viewQuorumsSpec) :=
  OpenClaim.holds_of_wide 4 Try.f4 rfl rfl rfl rfl rfl rfl rfl ⟨rfl, rfl, rfl, rfl, rfl⟩ rfl rfl rfl rfl rfl (by kernel_rfl) Try.func4 (by kernel_rfl)
    (of_decide_eq_true (by kernel_rfl)) (by unfold Func.isWrapper; first | (rw [if_pos (by decide +kernel)]; kernel_rfl) | (rw [if_neg (by decide +kernel)]; exact ⟨rfl, rfl⟩))
    (fun os started H enc _ => lifted os started H enc)

/-- the statement -/
theorem proved : Rows.ViewQuorumsSaid := over
#print axioms proved

end Go.Proofs.Ytagmocofmedmjaa.viewQuorums
