/- Contracts of the functions that compare two lists of ints. -/
import Derived.Test.YtagmocofmedmjaaWords
import Derived.Test.YtagmocofmedmjaaPlain
namespace Go.Proofs.Ytagmocofmedmjaa
open Go.RowKit

theorem same3_any (A A' : Option Addr) (c c' : Nat) (xs ys : List Int) (w : World) (h : Row w A (ints xs)) (h' : Row w A' (ints ys)) (hn : xs.length ≤ 9223372036854775807) :
    Calls Try.prog 30 #[.slice A xs.length c, .slice A' ys.length c'] w fun e w' => e = .returned (.bool (sameB xs ys)) ∧ Still w w' := by
  have H := Lib.hid h; clear h
  have H' := Lib.hid h'; clear h'
  by_cases hl : xs.length = ys.length
  · have HL := Lib.hid hl
    have hb : ((xs.length : Int) != (ys.length : Int)) = false := by simp [hl]
    have hle : ys.length ≤ xs.length := by omega
    have hge : xs.length ≤ ys.length := by omega
    clear hl
    go_enter Try.func30, Try.ntmps30
    go_wp2
    go_loopw [5] (fun i wr => ∃ k : Nat, k ≤ xs.length ∧ i = .int .i64 k ∧ Hid (xs.take k = ys.take k) ∧ Still w wr) (fun i _ => xs.length - (intOf i).toNat)
    case atStart => exact ⟨0, Nat.zero_le _, rfl, rfl, Still.refl _⟩
    case round =>
      obtain ⟨k, hk, rfl, HT, HS⟩ := hrel
      by_cases hlt : k < xs.length
      · obtain ⟨b, off, x, rfl, hc, HX⟩ := (HS.row H.out).at_ hlt
        obtain ⟨b', off', y, rfl, hc', HY⟩ := (HS.row H'.out).at_ (show k < ys.length by omega)
        by_cases he : x = y
        · have hb' : (x != y) = false := by simp [he]
          have HE := Lib.hid he; clear he
          go_wp2
          go_quiet (fail)
          go_wp2
          go_roundw
          case rel => exact ⟨k + 1, by omega, by go_num, same_step HX.out HY.out HE.out HT.out, HS.drewN _⟩
          case measure => simp [intOf]; omega
        · have hb' : (x != y) = true := by simp [he]
          have HE := Lib.hid he; clear he
          go_wp2
          go_quiet (fail)
          go_wp2
          go_ret
          exact ⟨ret_bool (sameB_diff HX.out HY.out HE.out).symm, HS.drewN _⟩
      · go_wp2
        go_ret
        exact ⟨ret_bool (sameB_all hlt HL.out HT.out).symm, HS⟩
  · have HE := Lib.hid (sameB_len hl)
    have hb : ((xs.length : Int) != (ys.length : Int)) = true := by simp; omega
    clear hl
    go_enter Try.func30, Try.ntmps30
    go_wp2
    go_ret
    exact ⟨ret_bool HE.out.symm, Still.refl _⟩

theorem same8_any (A A' : Option Addr) (c c' : Nat) (xs ys : List Int) (w : World) (h : Row w A (ints xs)) (h' : Row w A' (ints ys)) (hn : xs.length ≤ 9223372036854775807) :
    Calls Try.prog 39 #[.slice A xs.length c, .slice A' ys.length c'] w fun e w' => e = .returned (.bool (sameB xs ys)) ∧ Still w w' := by
  have H := Lib.hid h; clear h
  have H' := Lib.hid h'; clear h'
  by_cases hl : xs.length = ys.length
  · have HL := Lib.hid hl
    have hb : ((xs.length : Int) != (ys.length : Int)) = false := by simp [hl]
    have hle : ys.length ≤ xs.length := by omega
    have hge : xs.length ≤ ys.length := by omega
    clear hl
    go_enter Try.func39, Try.ntmps39
    go_wp2
    go_loopw [5] (fun i wr => ∃ k : Nat, k ≤ xs.length ∧ i = .int .i64 k ∧ Hid (xs.take k = ys.take k) ∧ Still w wr) (fun i _ => xs.length - (intOf i).toNat)
    case atStart => exact ⟨0, Nat.zero_le _, rfl, rfl, Still.refl _⟩
    case round =>
      obtain ⟨k, hk, rfl, HT, HS⟩ := hrel
      by_cases hlt : k < xs.length
      · obtain ⟨b, off, x, rfl, hc, HX⟩ := (HS.row H.out).at_ hlt
        obtain ⟨b', off', y, rfl, hc', HY⟩ := (HS.row H'.out).at_ (show k < ys.length by omega)
        by_cases he : x = y
        · have hb' : (x != y) = false := by simp [he]
          have HE := Lib.hid he; clear he
          go_wp2
          go_quiet (fail)
          go_wp2
          go_roundw
          case rel => exact ⟨k + 1, by omega, by go_num, same_step HX.out HY.out HE.out HT.out, HS.drewN _⟩
          case measure => simp [intOf]; omega
        · have hb' : (x != y) = true := by simp [he]
          have HE := Lib.hid he; clear he
          go_wp2
          go_quiet (fail)
          go_wp2
          go_ret
          exact ⟨ret_bool (sameB_diff HX.out HY.out HE.out).symm, HS.drewN _⟩
      · go_wp2
        go_ret
        exact ⟨ret_bool (sameB_all hlt HL.out HT.out).symm, HS⟩
  · have HE := Lib.hid (sameB_len hl)
    have hb : ((xs.length : Int) != (ys.length : Int)) = true := by simp; omega
    clear hl
    go_enter Try.func39, Try.ntmps39
    go_wp2
    go_ret
    exact ⟨ret_bool HE.out.symm, Still.refl _⟩

theorem sameInts_any (A A' : Option Addr) (c c' : Nat) (xs ys : List Int) (w : World) (h : Row w A (ints xs)) (h' : Row w A' (ints ys)) (hn : xs.length ≤ 9223372036854775807) :
    Calls Try.prog 72 #[.slice A xs.length c, .slice A' ys.length c'] w fun e w' => e = .returned (.bool (sameB xs ys)) ∧ Still w w' := by
  have H := Lib.hid h; clear h
  have H' := Lib.hid h'; clear h'
  by_cases hl : xs.length = ys.length
  · have HL := Lib.hid hl
    have hb : ((xs.length : Int) != (ys.length : Int)) = false := by simp [hl]
    have hle : ys.length ≤ xs.length := by omega
    have hge : xs.length ≤ ys.length := by omega
    clear hl
    go_enter Try.func72, Try.ntmps72
    go_wp2
    go_loopw [5] (fun i wr => ∃ k : Nat, k ≤ xs.length ∧ i = .int .i64 k ∧ Hid (xs.take k = ys.take k) ∧ Still w wr) (fun i _ => xs.length - (intOf i).toNat)
    case atStart => exact ⟨0, Nat.zero_le _, rfl, rfl, Still.refl _⟩
    case round =>
      obtain ⟨k, hk, rfl, HT, HS⟩ := hrel
      by_cases hlt : k < xs.length
      · obtain ⟨b, off, x, rfl, hc, HX⟩ := (HS.row H.out).at_ hlt
        obtain ⟨b', off', y, rfl, hc', HY⟩ := (HS.row H'.out).at_ (show k < ys.length by omega)
        by_cases he : x = y
        · have hb' : (x != y) = false := by simp [he]
          have HE := Lib.hid he; clear he
          go_wp2
          go_quiet (fail)
          go_wp2
          go_roundw
          case rel => exact ⟨k + 1, by omega, by go_num, same_step HX.out HY.out HE.out HT.out, HS.drewN _⟩
          case measure => simp [intOf]; omega
        · have hb' : (x != y) = true := by simp [he]
          have HE := Lib.hid he; clear he
          go_wp2
          go_quiet (fail)
          go_wp2
          go_ret
          exact ⟨ret_bool (sameB_diff HX.out HY.out HE.out).symm, HS.drewN _⟩
      · go_wp2
        go_ret
        exact ⟨ret_bool (sameB_all hlt HL.out HT.out).symm, HS⟩
  · have HE := Lib.hid (sameB_len hl)
    have hb : ((xs.length : Int) != (ys.length : Int)) = true := by simp; omega
    clear hl
    go_enter Try.func72, Try.ntmps72
    go_wp2
    go_ret
    exact ⟨ret_bool HE.out.symm, Still.refl _⟩

theorem equal_any (A A' : Option Addr) (c c' : Nat) (xs ys : List Int) (w : World) (h : Row w A (ints xs)) (h' : Row w A' (ints ys)) (hn : xs.length ≤ 9223372036854775807) :
    Calls Try.prog 73 #[.slice A xs.length c, .slice A' ys.length c'] w fun e w' => e = .returned (.bool (sameB xs ys)) ∧ Still w w' := by
  have H := Lib.hid h; clear h
  have H' := Lib.hid h'; clear h'
  by_cases hl : xs.length = ys.length
  · have HL := Lib.hid hl
    have hb : ((xs.length : Int) != (ys.length : Int)) = false := by simp [hl]
    have hle : ys.length ≤ xs.length := by omega
    have hge : xs.length ≤ ys.length := by omega
    clear hl
    go_enter Try.func73, Try.ntmps73
    go_wp2
    go_loopw [5, 13] (fun _ i wr => ∃ k : Nat, k ≤ xs.length ∧ i = .int .i64 k ∧ Hid (xs.take k = ys.take k) ∧ Still w wr) (fun _ i _ => xs.length - (intOf i).toNat)
    case atStart => exact ⟨0, Nat.zero_le _, rfl, rfl, Still.refl _⟩
    case round =>
      obtain ⟨k, hk, rfl, HT, HS⟩ := hrel
      by_cases hlt : k < xs.length
      · obtain ⟨b, off, x, rfl, hc, HX⟩ := (HS.row H.out).at_ hlt
        obtain ⟨b', off', y, rfl, hc', HY⟩ := (HS.row H'.out).at_ (show k < ys.length by omega)
        by_cases he : x = y
        · have hb' : (x != y) = false := by simp [he]
          have HE := Lib.hid he; clear he
          go_wp2
          go_quiet (fail)
          go_wp2
          go_roundw
          case rel => exact ⟨k + 1, by omega, by go_num, same_step HX.out HY.out HE.out HT.out, HS.drewN _⟩
          case measure => simp [intOf]; omega
        · have hb' : (x != y) = true := by simp [he]
          have HE := Lib.hid he; clear he
          go_wp2
          go_quiet (fail)
          go_wp2
          go_ret
          exact ⟨ret_bool (sameB_diff HX.out HY.out HE.out).symm, HS.drewN _⟩
      · go_wp2
        go_ret
        exact ⟨ret_bool (sameB_all hlt HL.out HT.out).symm, HS⟩
  · have HE := Lib.hid (sameB_len hl)
    have hb : ((xs.length : Int) != (ys.length : Int)) = true := by simp; omega
    clear hl
    go_enter Try.func73, Try.ntmps73
    go_wp2
    go_ret
    exact ⟨ret_bool HE.out.symm, Still.refl _⟩
end Go.Proofs.Ytagmocofmedmjaa
