/- Contracts of package view: searching and validating lists. -/
import Derived.Test.YtagmocofmedmjaaWords
import Derived.Test.YtagmocofmedmjaaPlain
namespace Go.Proofs.Ytagmocofmedmjaa
open Go.RowKit

theorem place_any (A : Option Addr) (c : Nat) (xs : List Int) (id : Int) (w : World) (h : Row w A (ints xs)) (hn : xs.length ≤ 9223372036854775807) :
    Calls Try.prog 22 #[.slice A xs.length c, .int .i64 id] w fun e w' => e = .returned (.int .i64 (place xs id)) ∧ w = w' := by
  have H := Lib.hid h; clear h
  go_enter Try.func22, Try.ntmps22
  go_wp2
  go_loop [5, 6, 9] (fun _ _ i => ∃ k : Nat, k ≤ xs.length ∧ i = .int .i64 k ∧ Hid (find id (xs.drop k) k = place xs id)) (fun _ _ i => xs.length - (intOf i).toNat)
  case atStart => exact ⟨0, Nat.zero_le _, rfl, rfl⟩
  case round =>
    obtain ⟨k, hk, rfl, HR⟩ := hrel
    by_cases hlt : k < xs.length
    · obtain ⟨b, off, x, rfl, hc, HX⟩ := H.out.at_ hlt
      by_cases he : x = id
      · have hb : (x == id) = true := by simp [he]
        have HE := Lib.hid he; clear he
        go_wp2
        go_ret
        exact ⟨ret_int (by rw [← HR.out, find_hit HX.out HE.out]), rfl⟩
      · have hb : (x == id) = false := by simp [he]
        have HE := Lib.hid he; clear he
        go_wp2
        go_round
        case rel => exact ⟨k + 1, by omega, by go_num, by rw [← find_miss HX.out HE.out]; exact HR.out⟩
        case measure => simp [intOf]; omega
    · go_wp2
      go_ret
      exact ⟨ret_int (by rw [← HR.out, find_end hlt]), rfl⟩

theorem identifiers_any (A : Option Addr) (c : Nat) (xs : List Int) (most : Int) (w : World) (h : Row w A (ints xs)) (hn : xs.length ≤ 9223372036854775807) :
    Calls Try.prog 63 #[.slice A xs.length c, .int .i64 most] w fun e w' => e = .returned (.bool (idsB xs most)) ∧ w = w' := by
  have H := Lib.hid h; clear h
  by_cases h1 : (xs.length : Int) < 1
  · have HE : Hid (idsB xs most = false) := by unfold Hid idsB; rw [if_pos (.inl h1)]
    have hd : decide ((xs.length : Int) < 1) = true := by simpa using h1
    go_enter Try.func63, Try.ntmps63
    go_wp2
    go_ret
    exact ⟨ret_bool HE.out.symm, rfl⟩
  · have h1' : (1 : Int) ≤ xs.length := by omega
    by_cases h2 : most < (xs.length : Int)
    · have HE : Hid (idsB xs most = false) := by unfold Hid idsB; rw [if_pos (.inr h2)]
      go_enter Try.func63, Try.ntmps63
      go_wp2
      go_ret
      exact ⟨ret_bool HE.out.symm, rfl⟩
    · have HE : Hid (idsB xs most = rises 0 xs) := by unfold Hid idsB; rw [if_neg (by omega)]
      have h2' : (xs.length : Int) ≤ most := by omega
      clear h1 h2
      go_enter Try.func63, Try.ntmps63
      go_wp2
      go_loop [5, 7, 19] (fun l _ i => ∃ (k : Nat) (last : Int), k ≤ xs.length ∧ l = .int .i64 last ∧ i = .int .i64 k ∧ Hid (rises last (xs.drop k) = rises 0 xs)) (fun _ _ i => xs.length - (intOf i).toNat)
      case atStart => exact ⟨0, 0, Nat.zero_le _, rfl, rfl, rfl⟩
      case round =>
        obtain ⟨k, last, hk, rfl, rfl, HR⟩ := hrel
        by_cases hlt : k < xs.length
        · obtain ⟨b, off, x, rfl, hc, HX⟩ := H.out.at_ hlt
          by_cases ha : x ≤ last
          · go_wp2
            go_ret
            exact ⟨ret_bool (by rw [HE.out, ← HR.out, rises_lo HX.out ha]), rfl⟩
          · by_cases hb : 1000 < x
            · go_wp2
              go_ret
              exact ⟨ret_bool (by rw [HE.out, ← HR.out, rises_hi HX.out hb]), rfl⟩
            · have ha' : last < x := by omega
              have hb' : x ≤ 1000 := by omega
              clear ha hb
              go_wp2
              go_round
              case rel => exact ⟨k + 1, x, by omega, rfl, by go_num, by rw [← rises_on HX.out ha' hb']; exact HR.out⟩
              case measure => simp [intOf]; omega
        · go_wp2
          go_ret
          exact ⟨ret_bool (by rw [HE.out, ← HR.out, rises_end hlt]), rfl⟩

theorem validMembers_any (A : Option Addr) (c : Nat) (xs : List Int) (w : World) (h : Row w A (ints xs)) (hn : xs.length ≤ 9223372036854775807) :
    Calls Try.prog 16 #[.slice A xs.length c] w fun e w' => e = .returned (.bool (idsB xs 16)) ∧ w = w' := by
  go_enter Try.func16, Try.ntmps16
  go_wp2_with (go_at_call 63; refine (identifiers_any _ _ _ _ _ h hn).mono ?_; rintro e w' ⟨rfl, rfl⟩)
  go_ret
  exact ⟨rfl, rfl⟩

theorem validCut_any (A : Option Addr) (c : Nat) (xs : List Int) (w : World) (h : Row w A (ints xs)) (hn : xs.length ≤ 9223372036854775807) :
    Calls Try.prog 18 #[.slice A xs.length c] w fun e w' => e = .returned (.bool (idsB xs 32)) ∧ w = w' := by
  go_enter Try.func18, Try.ntmps18
  go_wp2_with (go_at_call 63; refine (identifiers_any _ _ _ _ _ h hn).mono ?_; rintro e w' ⟨rfl, rfl⟩)
  go_ret
  exact ⟨rfl, rfl⟩

theorem contains_any (A : Option Addr) (c : Nat) (xs : List Int) (id : Int) (w : World) (h : Row w A (ints xs)) (hn : xs.length ≤ 9223372036854775807) :
    Calls Try.prog 20 #[.slice A xs.length c, .int .i64 id] w fun e w' => e = .returned (.bool (hasB xs id)) ∧ w = w' := by
  go_enter Try.func20, Try.ntmps20
  go_wp2_with (go_at_call 22; refine (place_any _ _ _ _ _ h hn).mono ?_; rintro e w' ⟨rfl, rfl⟩)
  go_ret
  exact ⟨rfl, rfl⟩

theorem majority_any (n : Int) (w : World) :
    Calls Try.prog 24 #[.int .i64 n] w fun e w' => e = .returned (.int .i64 (majZ n)) ∧ w = w' := by
  by_cases h1 : 1 ≤ n
  · by_cases h2 : n ≤ 16
    · have HE : Hid (majZ n = n / 2 + 1) := if_pos ⟨h1, h2⟩
      go_enter Try.func24, Try.ntmps24
      go_wp2
      go_ret
      exact ⟨ret_int HE.out.symm, rfl⟩
    · have HE : Hid (majZ n = 0) := if_neg (by omega)
      go_enter Try.func24, Try.ntmps24
      go_wp2
      go_ret
      exact ⟨ret_int HE.out.symm, rfl⟩
  · have HE : Hid (majZ n = 0) := if_neg (by omega)
    have hd : decide (1 ≤ n) = false := by simpa using h1
    go_enter Try.func24, Try.ntmps24
    go_wp2
    go_ret
    exact ⟨ret_int HE.out.symm, rfl⟩

theorem fastQuorum_any (n : Int) (w : World) :
    Calls Try.prog 26 #[.int .i64 n] w fun e w' => e = .returned (.int .i64 (fqZ n)) ∧ w = w' := by
  by_cases h1 : 1 ≤ n
  · by_cases h2 : n ≤ 16
    · have HE : Hid (fqZ n = n - (n - 1) / 4) := if_pos ⟨h1, h2⟩
      go_enter Try.func26, Try.ntmps26
      go_wp2
      go_ret
      exact ⟨ret_int HE.out.symm, rfl⟩
    · have HE : Hid (fqZ n = 0) := if_neg (by omega)
      go_enter Try.func26, Try.ntmps26
      go_wp2
      go_ret
      exact ⟨ret_int HE.out.symm, rfl⟩
  · have HE : Hid (fqZ n = 0) := if_neg (by omega)
    have hd : decide (1 ≤ n) = false := by simpa using h1
    go_enter Try.func26, Try.ntmps26
    go_wp2
    go_ret
    exact ⟨ret_int HE.out.symm, rfl⟩

theorem valid_any (num : Int) (A : Option Addr) (c : Nat) (xs : List Int) (w : World) (h : Row w A (ints xs)) (hn : xs.length ≤ 9223372036854775807) :
    Calls Try.prog 50 #[.agg #[.int .i64 num, .slice A xs.length c]] w fun e w' => e = .returned (.bool (validB num xs)) ∧ Ext w w' := by
  by_cases h1 : 0 ≤ num
  · by_cases h2 : num ≤ 1099511627776
    · have HE := Lib.hid (validB_mid (xs := xs) h1 h2)
      have H := Lib.hid h; clear h
      go_enter Try.func50, Try.ntmps50
      go_wp2_with (go_at_call 16; refine (validMembers_any _ _ _ _ (H.out.ext ((Below.refl _ _).alloc (Nat.le_refl _) _)) hn).mono ?_; rintro e w' ⟨rfl, hs⟩)
      go_ret
      exact ⟨ret_bool HE.out.symm, Ext.trans ((Below.refl _ _).alloc (Nat.le_refl _) _) (by rw [hs]; exact Below.refl _ _)⟩
    · have HE := Lib.hid (validB_big (n := num) (xs := xs) (by omega))
      go_enter Try.func50, Try.ntmps50
      go_wp2
      go_ret
      exact ⟨ret_bool HE.out.symm, (Below.refl _ _).alloc (Nat.le_refl _) _⟩
  · have HE := Lib.hid (validB_neg (n := num) (xs := xs) (by omega))
    go_enter Try.func50, Try.ntmps50
    go_wp2
    go_ret
    exact ⟨ret_bool HE.out.symm, (Below.refl _ _).alloc (Nat.le_refl _) _⟩

theorem validCut_yes (A : Option Addr) (c : Nat) (xs : List Int) (w : World) (h : Row w A (ints xs)) (hn : xs.length ≤ 9223372036854775807) (hv : idsB xs 32 = true) :
    Calls Try.prog 18 #[.slice A xs.length c] w fun e w' => e = .returned (.bool true) ∧ w = w' := by
  rw [← hv]; exact validCut_any A c xs w h hn

theorem validCut_no (A : Option Addr) (c : Nat) (xs : List Int) (w : World) (h : Row w A (ints xs)) (hn : xs.length ≤ 9223372036854775807) (hv : idsB xs 32 = false) :
    Calls Try.prog 18 #[.slice A xs.length c] w fun e w' => e = .returned (.bool false) ∧ w = w' := by
  rw [← hv]; exact validCut_any A c xs w h hn

theorem valid_yes (num : Int) (A : Option Addr) (c : Nat) (xs : List Int) (w : World) (h : Row w A (ints xs)) (hn : xs.length ≤ 9223372036854775807) (hv : validB num xs = true) :
    Calls Try.prog 50 #[.agg #[.int .i64 num, .slice A xs.length c]] w fun e w' => e = .returned (.bool true) ∧ Ext w w' := by
  rw [← hv]; exact valid_any num A c xs w h hn

theorem valid_no (num : Int) (A : Option Addr) (c : Nat) (xs : List Int) (w : World) (h : Row w A (ints xs)) (hn : xs.length ≤ 9223372036854775807) (hv : validB num xs = false) :
    Calls Try.prog 50 #[.agg #[.int .i64 num, .slice A xs.length c]] w fun e w' => e = .returned (.bool false) ∧ Ext w w' := by
  rw [← hv]; exact valid_any num A c xs w h hn
end Go.Proofs.Ytagmocofmedmjaa
