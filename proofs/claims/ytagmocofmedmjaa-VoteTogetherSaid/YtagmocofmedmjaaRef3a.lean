/- Contracts of the reference of layer 3: searching and validating lists. -/
import Derived.Test.YtagmocofmedmjaaWords
import Derived.Test.YtagmocofmedmjaaPlain
namespace Go.Proofs.Ytagmocofmedmjaa
open Go.RowKit

theorem isID_any (n : Int) (w : World) :
    Calls Try.prog 86 #[.int .i64 n] w fun e w' => e = .returned (.bool (isId n)) ∧ w = w' := by
  by_cases h1 : 1 ≤ n
  · by_cases h2 : n ≤ 1000
    · have HE : Hid (isId n = true) := by simp [Hid, isId, h1, h2]
      go_enter Try.func86, Try.ntmps86
      go_wp2
      go_ret
      exact ⟨ret_bool HE.out.symm, rfl⟩
    · have HE : Hid (isId n = false) := by simp [Hid, isId, h2]
      have hd : decide (n ≤ 1000) = false := by simpa using h2
      go_enter Try.func86, Try.ntmps86
      go_wp2
      go_ret
      exact ⟨ret_bool HE.out.symm, rfl⟩
  · have HE : Hid (isId n = false) := by simp [Hid, isId, h1]
    have hd : decide (1 ≤ n) = false := by simpa using h1
    go_enter Try.func86, Try.ntmps86
    go_wp2
    go_ret
    exact ⟨ret_bool HE.out.symm, rfl⟩

theorem isID_yes (n : Int) (w : World) (h : isId n = true) : Calls Try.prog 86 #[.int .i64 n] w fun e w' => e = .returned (.bool true) ∧ w = w' := by
  rw [← h]; exact isID_any n w
theorem isID_no (n : Int) (w : World) (h : isId n = false) : Calls Try.prog 86 #[.int .i64 n] w fun e w' => e = .returned (.bool false) ∧ w = w' := by
  rw [← h]; exact isID_any n w

theorem rising_any (A : Option Addr) (c : Nat) (xs : List Int) (w : World) (h : Row w A (ints xs)) (hn : xs.length ≤ 9223372036854775807) :
    Calls Try.prog 64 #[.slice A xs.length c] w fun e w' => e = .returned (.bool (rises 0 xs)) ∧ Still w w' := by
  have H := Lib.hid h; clear h
  go_enter Try.func64, Try.ntmps64
  go_wp2
  go_loopw [3] (fun i wr => ∃ (k : Nat) (last : Int), k ≤ xs.length ∧ i = .int .i64 k ∧ Hid ((k = 0 → last = 0) ∧ (0 < k → xs[k - 1]? = some last ∧ 1 ≤ last)) ∧ Hid (rises last (xs.drop k) = rises 0 xs) ∧ Still w wr) (fun i _ => xs.length - (intOf i).toNat)
  case atStart => exact ⟨0, 0, Nat.zero_le _, rfl, ⟨fun _ => rfl, fun h => absurd h (by omega)⟩, rfl, Still.refl _⟩
  case round =>
    obtain ⟨k, last, hk, rfl, HL, HR, HS⟩ := hrel
    by_cases hlt : k < xs.length
    · obtain ⟨b, off, x, rfl, hc, HX⟩ := (HS.row H.out).at_ hlt
      by_cases hid : isId x = true
      · have hb : 1 ≤ x ∧ x ≤ 1000 := by simpa [isId] using hid
        have HI := Lib.hid hid; clear hid
        rcases k with _ | k
        · have hl0 : last = 0 := HL.out.1 rfl
          have HL0 := Lib.hid hl0; clear hl0
          simp only [Nat.add_zero] at hc
          go_wp2
          go_quiet ((go_at_call 86; exact quiet_same (isID_yes _ _ HI.out)))
          go_wp2
          go_roundw
          case rel => exact ⟨1, x, by omega, rfl, ⟨fun h => by omega, fun _ => ⟨HX.out, hb.1⟩⟩, by rw [← rises_on (last := last) HX.out (by have := HL0.out; omega) hb.2]; exact HR.out, HS.drewN _⟩
          case measure => simp [intOf]; omega
        · obtain ⟨b', off', y, ha', hc', HY⟩ := (HS.row H.out).at_ (show k < xs.length by omega)
          cases ha'
          have hl1 := HL.out.2 (by omega)
          simp only [Nat.add_sub_cancel, HY.out, Option.some.injEq] at hl1
          obtain ⟨rfl, hl1⟩ := hl1
          have e1 : ((k : Int) + 1).toNat = k + 1 := by omega
          have e2 : (0 : Int) ≤ (k : Int) + 1 := by omega
          have e3 : (k : Int) + 1 < xs.length := by omega
          by_cases hle : x ≤ y
          · go_wp2
            go_quiet ((go_at_call 86; exact quiet_same (isID_yes _ _ HI.out)))
            go_wp2
            go_ret
            exact ⟨ret_bool (by rw [← HR.out, rises_lo HX.out hle]), HS.drewN _⟩
          · have hle' : y < x := by omega
            clear hle
            go_wp2
            go_quiet ((go_at_call 86; exact quiet_same (isID_yes _ _ HI.out)))
            go_wp2
            go_roundw
            case rel => exact ⟨k + 2, x, by omega, by go_num, ⟨fun h => by omega, fun _ => ⟨HX.out, hb.1⟩⟩, by rw [← rises_on HX.out hle' hb.2]; exact HR.out, HS.drewN _⟩
            case measure => simp [intOf]; omega
      · have hid' : isId x = false := by simpa using hid
        have HI := Lib.hid hid'; clear hid' hid
        have HF : Hid (rises last (xs.drop k) = false) := by
          have hb : x < 1 ∨ 1000 < x := by have := HI.out; simp [isId] at this; omega
          rcases hb with hb | hb
          · have : 0 ≤ last := by
              rcases Nat.eq_zero_or_pos k with h0 | h0
              · rw [HL.out.1 h0]; omega
              · have := (HL.out.2 h0).2; omega
            exact rises_lo HX.out (by omega)
          · exact rises_hi HX.out hb
        go_wp2
        go_quiet ((go_at_call 86; exact quiet_same (isID_no _ _ HI.out)))
        go_wp2
        go_ret
        exact ⟨ret_bool (by rw [← HR.out, HF.out]), HS.drewN _⟩
    · go_wp2
      go_ret
      exact ⟨ret_bool (by rw [← HR.out, rises_end hlt]), HS⟩

theorem rvalidMembers_any (A : Option Addr) (c : Nat) (xs : List Int) (w : World) (h : Row w A (ints xs)) (hn : xs.length ≤ 9223372036854775807) :
    Calls Try.prog 17 #[.slice A xs.length c] w fun e w' => e = .returned (.bool (idsB xs 16)) ∧ Still w w' := by
  by_cases h1 : (1 : Int) ≤ xs.length
  · by_cases h2 : (xs.length : Int) ≤ 16
    · have HE := Lib.hid (idsB_mid h1 h2)
      go_enter Try.func17, Try.ntmps17
      go_wp2_with (go_at_call 64; refine (rising_any _ _ _ _ h hn).mono ?_; rintro e w' ⟨rfl, hs⟩)
      go_ret
      exact ⟨ret_bool HE.out.symm, hs⟩
    · have HE := Lib.hid (idsB_long (xs := xs) (m := 16) (by omega))
      go_enter Try.func17, Try.ntmps17
      go_wp2
      go_ret
      exact ⟨ret_bool HE.out.symm, Still.refl _⟩
  · have HE := Lib.hid (idsB_short (xs := xs) (m := 16) (by omega))
    go_enter Try.func17, Try.ntmps17
    go_wp2
    go_ret
    exact ⟨ret_bool HE.out.symm, Still.refl _⟩

theorem rvalidCut_any (A : Option Addr) (c : Nat) (xs : List Int) (w : World) (h : Row w A (ints xs)) (hn : xs.length ≤ 9223372036854775807) :
    Calls Try.prog 19 #[.slice A xs.length c] w fun e w' => e = .returned (.bool (idsB xs 32)) ∧ Still w w' := by
  by_cases h1 : (1 : Int) ≤ xs.length
  · by_cases h2 : (xs.length : Int) ≤ 32
    · have HE := Lib.hid (idsB_mid h1 h2)
      go_enter Try.func19, Try.ntmps19
      go_wp2_with (go_at_call 64; refine (rising_any _ _ _ _ h hn).mono ?_; rintro e w' ⟨rfl, hs⟩)
      go_ret
      exact ⟨ret_bool HE.out.symm, hs⟩
    · have HE := Lib.hid (idsB_long (xs := xs) (m := 32) (by omega))
      go_enter Try.func19, Try.ntmps19
      go_wp2
      go_ret
      exact ⟨ret_bool HE.out.symm, Still.refl _⟩
  · have HE := Lib.hid (idsB_short (xs := xs) (m := 32) (by omega))
    go_enter Try.func19, Try.ntmps19
    go_wp2
    go_ret
    exact ⟨ret_bool HE.out.symm, Still.refl _⟩

theorem rplace_any (A : Option Addr) (c : Nat) (xs : List Int) (id : Int) (w : World) (h : Row w A (ints xs)) (hn : xs.length ≤ 9223372036854775807) :
    Calls Try.prog 23 #[.slice A xs.length c, .int .i64 id] w fun e w' => e = .returned (.int .i64 (place xs id)) ∧ w = w' := by
  have H := Lib.hid h; clear h
  go_enter Try.func23, Try.ntmps23
  go_wp2
  go_loop [5] (fun i => ∃ k : Nat, k ≤ xs.length ∧ i = .int .i64 k ∧ Hid (find id (xs.drop k) k = place xs id)) (fun i => xs.length - (intOf i).toNat)
  case atStart => exact ⟨0, Nat.zero_le _, rfl, rfl⟩
  case round =>
    obtain ⟨k, hk, rfl, HR⟩ := hrel
    by_cases hlt : k < xs.length
    · obtain ⟨b, off, x, rfl, hc, HX⟩ := H.out.at_ hlt
      by_cases he : x = id
      · have hb : (x == id) = true := by simp [he]
        have HE := Lib.hid he; clear he
        go_wp2
        go_ret
        exact ⟨ret_int (by rw [← HR.out, find_hit HX.out HE.out]), rfl⟩
      · have hb : (x == id) = false := by simp [he]
        have HE := Lib.hid he; clear he
        go_wp2
        go_round
        case rel => exact ⟨k + 1, by omega, by go_num, by rw [← find_miss HX.out HE.out]; exact HR.out⟩
        case measure => simp [intOf]; omega
    · go_wp2
      go_ret
      exact ⟨ret_int (by rw [← HR.out, find_end hlt]), rfl⟩

theorem rcontains_any (A : Option Addr) (c : Nat) (xs : List Int) (id : Int) (w : World) (h : Row w A (ints xs)) (hn : xs.length ≤ 9223372036854775807) :
    Calls Try.prog 21 #[.slice A xs.length c, .int .i64 id] w fun e w' => e = .returned (.bool (hasB xs id)) ∧ w = w' := by
  go_enter Try.func21, Try.ntmps21
  go_wp2_with (go_at_call 23; refine (rplace_any _ _ _ _ _ h hn).mono ?_; rintro e w' ⟨rfl, rfl⟩)
  go_ret
  exact ⟨rfl, rfl⟩

theorem rmajority_any (n : Int) (w : World) :
    Calls Try.prog 25 #[.int .i64 n] w fun e w' => e = .returned (.int .i64 (majZ n)) ∧ w = w' := by
  by_cases h1 : 1 ≤ n
  · by_cases h2 : n ≤ 16
    · have HE : Hid (majZ n = n / 2 + 1) := if_pos ⟨h1, h2⟩
      go_enter Try.func25, Try.ntmps25
      go_wp2
      go_ret
      exact ⟨ret_int HE.out.symm, rfl⟩
    · have HE : Hid (majZ n = 0) := if_neg (by omega)
      go_enter Try.func25, Try.ntmps25
      go_wp2
      go_ret
      exact ⟨ret_int HE.out.symm, rfl⟩
  · have HE : Hid (majZ n = 0) := if_neg (by omega)
    go_enter Try.func25, Try.ntmps25
    go_wp2
    go_ret
    exact ⟨ret_int HE.out.symm, rfl⟩

theorem rfastQuorum_any (n : Int) (w : World) :
    Calls Try.prog 27 #[.int .i64 n] w fun e w' => e = .returned (.int .i64 (fqZ n)) ∧ w = w' := by
  by_cases h1 : 1 ≤ n
  · by_cases h2 : n ≤ 16
    · have HE : Hid (fqZ n = n - (n - 1) / 4) := if_pos ⟨h1, h2⟩
      go_enter Try.func27, Try.ntmps27
      go_wp2
      go_ret
      exact ⟨ret_int HE.out.symm, rfl⟩
    · have HE : Hid (fqZ n = 0) := if_neg (by omega)
      go_enter Try.func27, Try.ntmps27
      go_wp2
      go_ret
      exact ⟨ret_int HE.out.symm, rfl⟩
  · have HE : Hid (fqZ n = 0) := if_neg (by omega)
    go_enter Try.func27, Try.ntmps27
    go_wp2
    go_ret
    exact ⟨ret_int HE.out.symm, rfl⟩

theorem rvalid_any (num : Int) (A : Option Addr) (c : Nat) (xs : List Int) (w : World) (h : Row w A (ints xs)) (hn : xs.length ≤ 9223372036854775807) :
    Calls Try.prog 47 #[.agg #[.int .i64 num, .slice A xs.length c]] w fun e w' => e = .returned (.bool (validB num xs)) ∧ Ext w w' := by
  by_cases h1 : 0 ≤ num
  · by_cases h2 : num ≤ 1099511627776
    · have HE := Lib.hid (validB_mid (xs := xs) h1 h2)
      have H := Lib.hid h; clear h
      go_enter Try.func47, Try.ntmps47
      go_wp2_with (go_at_call 17; refine (rvalidMembers_any _ _ _ _ (H.out.ext ((Below.refl _ _).alloc (Nat.le_refl _) _)) hn).mono ?_; rintro e w' ⟨rfl, hs⟩)
      go_ret
      exact ⟨ret_bool HE.out.symm, Ext.trans ((Below.refl _ _).alloc (Nat.le_refl _) _) hs.ext⟩
    · have HE := Lib.hid (validB_big (n := num) (xs := xs) (by omega))
      go_enter Try.func47, Try.ntmps47
      go_wp2
      go_ret
      exact ⟨ret_bool HE.out.symm, (Below.refl _ _).alloc (Nat.le_refl _) _⟩
  · have HE := Lib.hid (validB_neg (n := num) (xs := xs) (by omega))
    go_enter Try.func47, Try.ntmps47
    go_wp2
    go_ret
    exact ⟨ret_bool HE.out.symm, (Below.refl _ _).alloc (Nat.le_refl _) _⟩
end Go.Proofs.Ytagmocofmedmjaa
