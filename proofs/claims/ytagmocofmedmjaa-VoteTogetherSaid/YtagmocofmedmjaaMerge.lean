/- The contract of view.merge. -/
import Derived.Test.YtagmocofmedmjaaOwn
import Derived.Test.YtagmocofmedmjaaPlain
import Derived.Deep.LoopGhost
namespace Go.Proofs.Ytagmocofmedmjaa
open Go.RowKit

theorem ints_drop (xs : List Int) (k : Nat) : (ints xs).drop k = ints (xs.drop k) := by simp [ints]
theorem ints_len (xs : List Int) : (ints xs).length = xs.length := by simp [ints]
theorem ints_one (xs : List Int) : ∀ u ∈ ints xs, u.oneCell' = true := by
  intro u hu; simp only [ints, List.mem_map] at hu; obtain ⟨x, _, rfl⟩ := hu; rfl

set_option maxHeartbeats 800000 in
theorem merge_any (A B : Option Addr) (c d : Nat) (a b : List Int) (w : World) (ha : Row w A (ints a)) (hb : Row w B (ints b)) (hac : a.length ≤ c) (hna : a.length ≤ 1000) (hnb : b.length ≤ 1000) :
    Calls Try.prog 66 #[.slice A a.length c, .slice B b.length d] w (GivesI w (mergeL a b)) := by
  have HA := Lib.hid ha; have HB := Lib.hid hb; clear ha hb
  go_enter Try.func66, Try.ntmps66
  go_wp2
  go_step3
  go_wp2
  go_step3
  go_wp2
  go_loopg [5, 6, 8, 11] b.length (fun g v i _ jv wr => ∃ (j k : Nat) (out : List Int), j + g = b.length ∧ k ≤ a.length ∧ out.length = k + j ∧ i = .int .i64 k ∧ jv = .int .i64 j ∧ Hid (out ++ mergeL (a.drop k) (b.drop j) = mergeL a b) ∧ Own wr w.heap.size 3 v (ints out) ∧ Ext w wr)
  case atStart => exact ⟨0, 0, [], by omega, by omega, rfl, rfl, rfl, rfl, Own.nil _ _ _, Below.refl _ _⟩
  case round =>
    obtain ⟨j, k, out, hjg, hk, hlen, rfl, rfl, HR, ho, hx⟩ := hrel
    have hlen1 : out.length ≤ 2000 := by omega
    have HLEN := Lib.hid hlen
    clear hlen
    cases gk with
    | succ g =>
      have hlt : j < b.length := by omega
      have HJ := Lib.hid hjg
      clear hjg
      obtain ⟨bb, ob, y, rfl, hc, HY⟩ := (HB.out.ext hx).at_ hlt
      go_wp2
      go_loopg [5, 6] (a.length - k) (fun g2 v i wy => ∃ (k' : Nat) (out' : List Int), k' + g2 = a.length ∧ k' ≤ a.length ∧ i = .int .i64 k' ∧ Hid (out'.length = k' + j) ∧ out'.length ≤ 2000 ∧ Hid (out' ++ mergeL (a.drop k') (b.drop j) = mergeL a b) ∧ Own wy w.heap.size 3 v (ints out') ∧ Ext w wy)
      case atStart => exact ⟨k, out, by omega, hk, rfl, HLEN.out, hlen1, HR, ho, hx⟩
      case round =>
        obtain ⟨k', out', hkg, hk', rfl, HL', hl', HR', ho', hx'⟩ := hrel
        cases gk with
        | succ g2 =>
          have hlt' : k' < a.length := by omega
          have HK := Lib.hid hkg
          clear hkg
          obtain ⟨ba, oa, x, rfl, hca, HX⟩ := (HA.out.ext hx').at_ hlt'
          by_cases hgt : y < x
          · go_wp2_with (first
              | (at_builtin; refine push_int rfl (.tmp 27) (.tmp 29) rfl _ w.heap.size _ out' (by rfl) y (by rfl) ho' (by omega) hx'.size ?_; intro v1 w1 ho1 hg1 hs1))
            go_roundg g
            case measure => omega
            case rel => exact ⟨j + 1, k', out' ++ [y], by have := HJ.out; omega, by omega, by have := HL'.out; simp; omega, rfl, by go_num, merge_put HX.out HY.out hgt HR'.out, ho1, hg1.below hx' hx'.size (fun q hq => (ho'.lt q hq).1)⟩
          · have hle : x ≤ y := by omega
            clear hgt
            go_wp2_with (first
              | (at_builtin; refine push_int rfl (.tmp 31) (.tmp 36) rfl _ w.heap.size _ out' (by rfl) x (by rfl) ho' (by omega) hx'.size ?_; intro v1 w1 ho1 hg1 hs1))
            go_roundg g2
            case measure => omega
            case rel => exact ⟨k' + 1, out' ++ [x], by have := HK.out; omega, by omega, by go_num, by have := HL'.out; show (out' ++ [x]).length = k' + 1 + j; simp; omega, by have := HL'.out; simp; omega, merge_take HX.out HY.out hle HR'.out, ho1, hg1.below hx' hx'.size (fun q hq => (ho'.lt q hq).1)⟩
        | zero =>
          have hlt' : ¬ k' < a.length := by omega
          have HK := Lib.hid hkg
          clear hkg
          go_wp2_with (first
              | (at_builtin; refine push_int rfl (.tmp 38) (.tmp 40) rfl _ w.heap.size _ out' (by rfl) y (by rfl) ho' (by omega) hx'.size ?_; intro v1 w1 ho1 hg1 hs1))
          go_roundg g
          case measure => omega
          case rel => exact ⟨j + 1, k', out' ++ [y], by have := HJ.out; omega, by omega, by have := HL'.out; simp; omega, rfl, by go_num, merge_tail hlt' HY.out HR'.out, ho1, hg1.below hx' hx'.size (fun q hq => (ho'.lt q hq).1)⟩
    | zero =>
      have hlt : ¬ j < b.length := by omega
      have HJ := Lib.hid hjg
      clear hjg
      by_cases hck : c = k
      · have hz : a.length ≤ k := by omega
        have HZ := Lib.hid (fun A' => ints_drop a k ▸ Row.past (w := wr) (A := A') (xs := ints a) (k := k) (by rw [ints_len]; exact hz))
        subst hck
        go_wp2_with (first
          | (at_builtin; refine push_row rfl (.tmp 43) (.tmp 46) _ 3 _ 8 rfl Try.underlying22 info_int rfl (by decide) _ w.heap.size _ (ints out) (by rfl) _ _ _ (ints (a.drop c)) (by rfl) (by simp only [ints_len, List.length_drop]; try omega) (HZ.out _) (ints_one _) ho (by rw [ints_len]; omega) hx.size ?_; intro v1 w1 ho1 hg1 hs1))
        try rw [Exit.noGoto_ret]
        go_ret
        exact gives_own (by rw [← merge_end hlt HR.out]; simpa [ints] using ho1) (hg1.below hx hx.size (fun q hq => (ho.lt q hq).1))
      · have HZ := Lib.hid (ints_drop a k ▸ Row.map_ (HA.out.ext hx) (by rw [ints_len]; exact hac) hck)
        go_wp2_with (first
          | (at_builtin; refine push_row rfl (.tmp 43) (.tmp 46) _ 3 _ 8 rfl Try.underlying22 info_int rfl (by decide) _ w.heap.size _ (ints out) (by rfl) _ _ _ (ints (a.drop k)) (by rfl) (by simp only [ints_len, List.length_drop]; try omega) HZ.out (ints_one _) ho (by rw [ints_len]; omega) hx.size ?_; intro v1 w1 ho1 hg1 hs1))
        try rw [Exit.noGoto_ret]
        go_ret
        exact gives_own (by rw [← merge_end hlt HR.out]; simpa [ints] using ho1) (hg1.below hx hx.size (fun q hq => (ho.lt q hq).1))
end Go.Proofs.Ytagmocofmedmjaa
