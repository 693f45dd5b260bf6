/- Contracts of the reference of layer 3: lists made by append. -/
import Derived.Test.YtagmocofmedmjaaRef3a
import Derived.Test.YtagmocofmedmjaaOwn
namespace Go.Proofs.Ytagmocofmedmjaa
open Go.RowKit

theorem ramong_any (A A' : Option Addr) (c c' : Nat) (xs ys : List Int) (b : Bool) (w : World) (h : Row w A (ints xs)) (h' : Row w A' (ints ys)) (hn : xs.length ≤ 1000000) (hn' : ys.length ≤ 9223372036854775807) :
    Calls Try.prog 77 #[.slice A xs.length c, .slice A' ys.length c', .bool b] w (GivesI w (among xs ys b)) := by
  have H := Lib.hid h; clear h
  have H' := Lib.hid h'; clear h'
  go_enter Try.func77, Try.ntmps77
  go_wp2
  go_loopw [7, 8] (fun v i wr => ∃ k : Nat, k ≤ xs.length ∧ i = .int .i64 k ∧ Own wr w.heap.size 3 v (ints (filt (fun x => hasB ys x == b) xs k)) ∧ Ext w wr) (fun _ i _ => xs.length - (intOf i).toNat)
  case atStart => exact ⟨0, Nat.zero_le _, rfl, Own.nil _ _ _, Below.refl _ _⟩
  case round =>
    obtain ⟨k, hk, rfl, ho, hx⟩ := hrel
    by_cases hlt : k < xs.length
    · obtain ⟨bk, off, x, rfl, hc, HX⟩ := (H.out.ext hx).at_ hlt
      have hr' := Lib.hid (H'.out.ext hx)
      have hfl := filt_len (fun x => hasB ys x == b) xs k
      by_cases hp : (hasB ys x == b) = true
      · go_wp2_with (first
          | (go_at_call 21; refine (rcontains_any _ _ _ _ _ hr'.out hn').mono ?_; rintro e w' ⟨rfl, rfl⟩)
          | (at_builtin; refine push_int rfl _ _ rfl wr w.heap.size _ (filt (fun x => hasB ys x == b) xs k) (by rfl) x (by rfl) ho (by omega) hx.size ?_; intro v' w1 ho1 hg1 hs1))
        go_roundw
        case rel => exact ⟨k + 1, by omega, by go_num, by rw [filt_in HX.out hp]; exact ho1, hg1.below hx hx.size (fun q hq => (ho.lt q hq).1)⟩
        case measure => simp [intOf]; omega
      · have hp' : (hasB ys x == b) = false := by simpa using hp
        clear hp
        go_wp2_with (first
          | (go_at_call 21; refine (rcontains_any _ _ _ _ _ hr'.out hn').mono ?_; rintro e w' ⟨rfl, rfl⟩))
        go_roundw
        case rel => exact ⟨k + 1, by omega, by go_num, by rw [filt_out HX.out hp']; exact ho, hx⟩
        case measure => simp [intOf]; omega
    · go_wp2
      go_ret
      exact gives_own (by rw [filt_all hlt] at ho; exact ho) hx

theorem rinsert_any (A : Option Addr) (c : Nat) (xs : List Int) (id : Int) (w : World) (h : Row w A (ints xs)) (hn : xs.length ≤ 100000) :
    Calls Try.prog 75 #[.slice A xs.length c, .int .i64 id] w (GivesI w (insertL xs id)) := by
  have H := Lib.hid h; clear h
  go_enter Try.func75, Try.ntmps75
  go_wp2
  go_loopw [5, 6, 7] (fun v p i wr => ∃ (k : Nat) (put : Bool), k ≤ xs.length ∧ p = .bool put ∧ i = .int .i64 k ∧ Hid ((insSt id xs k).2 = put) ∧ Own wr w.heap.size 3 v (ints (insSt id xs k).1) ∧ Ext w wr) (fun _ _ i _ => xs.length - (intOf i).toNat)
  case atStart => exact ⟨0, false, Nat.zero_le _, rfl, rfl, rfl, Own.nil _ _ _, Below.refl _ _⟩
  case round =>
    obtain ⟨k, put, hk, rfl, rfl, HP, ho, hx⟩ := hrel
    have hfl := insSt_len id xs k
    by_cases hlt : k < xs.length
    · obtain ⟨bk, off, x, rfl, hc, HX⟩ := (H.out.ext hx).at_ hlt
      cases put with
      | false =>
        by_cases hp : id < x
        · go_wp2_with (first
            | (at_builtin; refine push_int rfl (.tmp 24) (.tmp 26) rfl wr w.heap.size _ (insSt id xs k).1 (by rfl) id (by rfl) ho (by omega) hx.size ?_; intro v1 w1 ho1 hg1 hs1; have hx1 := hg1.below hx hx.size (fun q hq => (ho.lt q hq).1); have hc1 := (H.out.ext hx1).cell HX.out)
            | (at_builtin; refine push_int rfl (.tmp 28) (.tmp 33) rfl w1 w.heap.size _ ((insSt id xs k).1 ++ [id]) (by rfl) x (by rfl) ho1 (by simp; omega) hx1.size ?_; intro v2 w2 ho2 hg2 hs2))
          have R := insSt_put HX.out HP.out hp
          go_roundw
          case rel => exact ⟨k + 1, true, by omega, rfl, by go_num, R.2, by rw [R.1]; exact ho2, hg2.below hx1 hx1.size (fun q hq => (ho1.lt q hq).1)⟩
          case measure => simp [intOf]; omega
        · have hp' : x ≤ id := by omega
          clear hp
          go_wp2_with (first
            | (at_builtin; refine push_int rfl (.tmp 28) (.tmp 33) rfl wr w.heap.size _ (insSt id xs k).1 (by rfl) x (by rfl) ho (by omega) hx.size ?_; intro v2 w2 ho2 hg2 hs2))
          have R := insSt_low HX.out HP.out hp'
          go_roundw
          case rel => exact ⟨k + 1, false, by omega, rfl, by go_num, R.2, by rw [R.1]; exact ho2, hg2.below hx hx.size (fun q hq => (ho.lt q hq).1)⟩
          case measure => simp [intOf]; omega
      | true =>
        go_wp2_with (first
          | (at_builtin; refine push_int rfl (.tmp 28) (.tmp 33) rfl wr w.heap.size _ (insSt id xs k).1 (by rfl) x (by rfl) ho (by omega) hx.size ?_; intro v2 w2 ho2 hg2 hs2))
        have R := insSt_on HX.out HP.out
        go_roundw
        case rel => exact ⟨k + 1, true, by omega, rfl, by go_num, R.2, by rw [R.1]; exact ho2, hg2.below hx hx.size (fun q hq => (ho.lt q hq).1)⟩
        case measure => simp [intOf]; omega
    · cases put with
      | false =>
        go_wp2_with (first
          | (at_builtin; refine push_int rfl (.tmp 37) (.tmp 39) rfl wr w.heap.size _ (insSt id xs k).1 (by rfl) id (by rfl) ho (by omega) hx.size ?_; intro v2 w2 ho2 hg2 hs2))
        go_ret
        exact gives_own (by rw [insertL_no hlt hk HP.out]; exact ho2) (hg2.below hx hx.size (fun q hq => (ho.lt q hq).1))
      | true =>
        go_wp2
        go_ret
        exact gives_own (by rw [insertL_yes hlt hk HP.out]; exact ho) hx
end Go.Proofs.Ytagmocofmedmjaa
