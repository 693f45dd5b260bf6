/- For every input the statement ViewNext returns true and leaves its arguments as they were. Conditions: none. -/
import Derived.Test.YtagmocofmedmjaaAwake3
import Derived.Test.YtagmocofmedmjaaSmall3
import Derived.Test.YtagmocofmedmjaaPlain3
import Derived.Test.YtagmocofmedmjaaRowKit
import Derived.Deep.DrawnRows
namespace Go.Proofs.Ytagmocofmedmjaa.viewNext
open Go.RowKit
attribute [local go_sem ↓] Go.wp_at_zero Go.wp_at_succ

theorem row2s {w : World} {b off n c n' c' : Nat} {a a' : Option Addr} (h0 : w.cell? ⟨b, off, none⟩ = some (.slice a n c)) (h1 : w.cell? ⟨b, off + 1, none⟩ = some (.slice a' n' c')) : Row w (some ⟨b, off, none⟩) (slV [(a, n, c), (a', n', c')]) := by
  intro _
  refine ⟨b, off, rfl, World.block_lt_of_cell? w _ h0, fun j v hj => ?_⟩
  match j, hj with
  | 0, hj => simp [slV] at hj; subst hj; exact h0
  | 1, hj => simp [slV] at hj; subst hj; exact h1

theorem same3_refl (A A' : Option Addr) (c c' : Nat) (xs : List Int) (w : World) (h : Row w A (ints xs)) (h' : Row w A' (ints xs)) (hn : xs.length ≤ 9223372036854775807) :
    Calls Try.prog 30 #[.slice A xs.length c, .slice A' xs.length c'] w fun e w' => e = .returned (.bool true) ∧ Still w w' := by
  have := same3_any A A' c c' xs xs w h h' hn
  rwa [show sameB xs xs = true by simp [sameB]] at this
theorem rsame_refl (n : Int) (A B : Option Addr) (c d : Nat) (xs : List Int) (w : World) (hx : Row w A (ints xs)) (hy : Row w B (ints xs)) (hn : xs.length ≤ 9223372036854775807) :
    Calls Try.prog 49 #[.agg #[.int .i64 n, .slice A xs.length c], .agg #[.int .i64 n, .slice B xs.length d]] w fun e w' => e = .returned (.bool true) ∧ Ext w w' := by
  have := rsame_any n n A B c d xs xs w hx hy hn
  rwa [show sameV n xs n xs = true by simp [sameV, sameB]] at this

set_option maxRecDepth 100000 in
set_option maxHeartbeats 4000000 in
theorem walk0 (num : Int) (A Ac : Option Addr) (c cc : Nat) (xs cut : List Int) (w : World) (hx : Row w A (ints xs)) (hc : Row w Ac (ints cut)) (hn : xs.length ≤ 9223372036854775807) (hnc : cut.length ≤ 9223372036854775807) :
    Calls Try.prog 10 #[.agg #[.int .i64 num, .slice A xs.length c], .slice Ac cut.length cc] w fun e w' => e = .returned (.bool true) ∧ Ext w w' := by
  have H0 := Lib.hid (Ext.new w (.cells #[.int .i64 num, .slice A xs.length c] 36))
  have HX := Lib.hid (hx.ext H0.out); have HC := Lib.hid (hc.ext H0.out)
  clear hx hc
  go_enter Try.func10, Try.ntmps10
  go_wp2_with fail
  refine (awake3_any _).mono ?_
  rintro e w1 ⟨rfl, hx1⟩
  have q0 : w1.cell? ⟨w.heap.size, 0, none⟩ = some (.int .i64 num) := by simpa using hx1.cell_new 0
  have q1 : w1.cell? ⟨w.heap.size, 1, none⟩ = some (.slice A xs.length c) := by simpa using hx1.cell_new 1
  have z1 : w.heap.size < w1.heap.size := by have := hx1.size; simp at this; omega
  have HX1 := Lib.hid (HX.out.ext hx1); have HC1 := Lib.hid (HC.out.ext hx1)
  have X1 := Lib.hid (H0.out.trans hx1)
  clear hx1 HX HC H0
  go_wp2_with fail
  have X2 := Lib.hid (Ext.new w1 (.cells #[.slice A xs.length c, .slice Ac cut.length cc] 22))
  by_cases hs : smallB [(A, xs.length, c), (Ac, cut.length, cc)] = true
  · refine (small3_any (some ⟨w1.heap.size, 0, none⟩) 2 [(A, xs.length, c), (Ac, cut.length, cc)] _ (row2s (by simp) (by simp)) (by simp)).mono ?_
    rw [hs]
    rintro e w2 ⟨rfl, rfl⟩
    clear hs
    go_wp2_with fail
    refine (next_any num A Ac c cc xs cut _ (HX1.out.ext X2.out) (HC1.out.ext X2.out) hn hnc).mono ?_
    rintro e w3 ⟨A3, c3, rfl, hc3, hm3, ho3, hx3⟩
    have q0' : w3.cell? ⟨w.heap.size, 0, none⟩ = some (.int .i64 num) := by rw [(X2.out.trans hx3).cell z1]; exact q0
    have q1' : w3.cell? ⟨w.heap.size, 1, none⟩ = some (.slice A xs.length c) := by rw [(X2.out.trans hx3).cell z1]; exact q1
    have z3 : w.heap.size < w3.heap.size := by have := (X2.out.trans hx3).size; omega
    have HX3 := Lib.hid (HX1.out.ext (X2.out.trans hx3)); have HC3 := Lib.hid (HC1.out.ext (X2.out.trans hx3))
    have X3 := Lib.hid (X1.out.trans (X2.out.trans hx3))
    have HR3 := Lib.hid ho3.row
    clear hx3 q0 q1 z1 HX1 HC1 X2 X1 ho3
    have hyl : (nextF num xs cut).2.1.length ≤ 16 := by
      by_cases he : (nextF num xs cut).2.2 = 0
      · exact (validB_len (nextF_inv (num := num) (xs := xs) (cut := cut) (n := (nextF num xs cut).1) (ys := (nextF num xs cut).2.1) (by rw [← he])).2.2.2.2.2.2.2.2).2
      · rw [(nextF_err he).2]; simp
    go_wp2_with fail
    have X4 := Lib.hid (Ext.new w3 (.cells #[.int .i64 (nextF num xs cut).1, .slice A3 (nextF num xs cut).2.1.length c3] 36))
    refine (rnext_any num A Ac c cc xs cut _ (HX3.out.ext X4.out) (HC3.out.ext X4.out) hn hnc).mono ?_
    generalize nextF num xs cut = r at *
    obtain ⟨n', ys, er⟩ := r
    simp only at *
    rintro e w4 ⟨A4, c4, rfl, hc4, hm4, ho4, hx4⟩
    simp only at *
    have q0 : w4.cell? ⟨w.heap.size, 0, none⟩ = some (.int .i64 num) := by rw [(X4.out.trans hx4).cell z3]; exact q0'
    have q1 : w4.cell? ⟨w.heap.size, 1, none⟩ = some (.slice A xs.length c) := by rw [(X4.out.trans hx4).cell z3]; exact q1'
    have q2 : w4.cell? ⟨w3.heap.size, 0, none⟩ = some (.int .i64 n') := by simpa using hx4.cell_new 0
    have q3 : w4.cell? ⟨w3.heap.size, 1, none⟩ = some (.slice A3 ys.length c3) := by simpa using hx4.cell_new 1
    have z4 : w.heap.size < w4.heap.size := by have := (X4.out.trans hx4).size; omega
    have z5 : w3.heap.size < w4.heap.size := by have := hx4.size; simp at this; omega
    have HX4 := Lib.hid (HX3.out.ext (X4.out.trans hx4)); have HC4 := Lib.hid (HC3.out.ext (X4.out.trans hx4))
    have HR4 := Lib.hid (HR3.out.ext (X4.out.trans hx4)); have HS4 := Lib.hid ho4.row
    have X5 := Lib.hid (X3.out.trans (X4.out.trans hx4))
    clear hx4 q0' q1' z3 HX3 HC3 X4 X3 ho4 HR3
    go_wp2
    have X6 := Lib.hid (Ext.drew (Ext.new w4 (.cells #[.int .i64 n', .slice A4 ys.length c4] 36)))
    have p1 := Lib.hid (HR4.out.ext X6.out); have p2 := Lib.hid (HS4.out.ext X6.out)
    have RX0 := Lib.hid (HX4.out.ext X6.out); have RC0 := Lib.hid (HC4.out.ext X6.out)
    have hyl' : ys.length ≤ 9223372036854775807 := by omega
    have bl : (leavers num xs cut).length ≤ 9223372036854775807 := by
      have := among_len cut xs true; unfold leavers; split <;> simp <;> omega
    have bj : (joiners num xs cut).length ≤ 9223372036854775807 := by
      have := among_len cut xs false; unfold joiners; split <;> simp <;> omega
    have bs : (survivors num xs cut).length ≤ 9223372036854775807 := by
      have := among_len xs cut false; unfold survivors; split <;> simp <;> omega
    go_region_held3 (fun w' => w'.cell? ⟨w.heap.size, 0, none⟩ = some (.int .i64 num) ∧ w'.cell? ⟨w.heap.size, 1, none⟩ = some (.slice A xs.length c) ∧ w'.cell? ⟨w3.heap.size, 0, none⟩ = some (.int .i64 n') ∧ w'.cell? ⟨w3.heap.size, 1, none⟩ = some (.slice A3 ys.length c3) ∧ w'.cell? ⟨w4.heap.size, 0, none⟩ = some (.int .i64 n') ∧ w'.cell? ⟨w4.heap.size, 1, none⟩ = some (.slice A4 ys.length c4))
      (first | (go_keep; done) | (go_split_ands; (repeat' apply And.intro) <;> first | (go_keep; done) | (rw [hx12.cell (by simp only <;> omega)]; assumption) | (rw [hx11.cell (by simp only <;> omega)]; assumption) | (rw [hx10.cell (by simp only <;> omega)]; assumption) | (rw [hx9.cell (by simp only <;> omega)]; assumption) | (rw [hx8.cell (by simp only <;> omega)]; assumption) | (rw [hx7.cell (by simp only <;> omega)]; assumption) | (rw [hx6.cell (by simp only <;> omega)]; assumption) | (rw [hx5.cell (by simp only <;> omega)]; assumption) | (rw [hx4.cell (by simp only <;> omega)]; assumption) | (rw [hx3.cell (by simp only <;> omega)]; assumption) | (rw [hx2.cell (by simp only <;> omega)]; assumption) | (rw [hx1.cell (by simp <;> omega)]; assumption)))
      (first
        | (go_at_call 49; ((refine (rsame_refl _ _ _ _ _ _ _ (by exact p1.out) (by exact p2.out) hyl').mono ?_); rintro e v1 ⟨rfl, hx1⟩); have RX1 := Lib.hid (Row.ext (w := (w4.alloc (.cells #[.int .i64 n', .slice A4 ys.length c4] 36)).drew) RX0.out hx1); have RC1 := Lib.hid (Row.ext (w := (w4.alloc (.cells #[.int .i64 n', .slice A4 ys.length c4] 36)).drew) RC0.out hx1); have y1 : w4.heap.size < v1.heap.size := Nat.lt_of_lt_of_le (by simp) hx1.size; have XE1 := Lib.hid hx1)
        | (go_at_call 50; ((refine (valid_any _ _ _ _ _ (by exact RX1.out) hn).mono ?_); rintro e v2 ⟨rfl, hx2⟩); have RX2 := Lib.hid (Row.ext (w := v1) RX1.out hx2); have RC2 := Lib.hid (Row.ext (w := v1) RC1.out hx2); have y2 : w4.heap.size < v2.heap.size := Nat.lt_of_lt_of_le (by exact y1) hx2.size; have XE2 := Lib.hid (Ext.trans XE1.out hx2))
        | (go_at_call 47; ((refine (rvalid_any _ _ _ _ _ (by exact RX2.out) hn).mono ?_); rintro e v3 ⟨rfl, hx3⟩); have RX3 := Lib.hid (Row.ext (w := v2) RX2.out hx3); have RC3 := Lib.hid (Row.ext (w := v2) RC2.out hx3); have y3 : w4.heap.size < v3.heap.size := Nat.lt_of_lt_of_le (by exact y2) hx3.size; have XE3 := Lib.hid (Ext.trans XE2.out hx3))
        | (go_at_call 51; ((refine (leavers_any _ _ _ _ _ _ _ _ (by exact RX3.out) (by exact RC3.out) hn hnc).mono ?_); rintro e v4 ⟨B4, d4, rfl, _, _, ho4, hx4⟩); have RX4 := Lib.hid (Row.ext (w := v3) RX3.out hx4); have RC4 := Lib.hid (Row.ext (w := v3) RC3.out hx4); have y4 : w4.heap.size < v4.heap.size := Nat.lt_of_lt_of_le (by exact y3) hx4.size; have L4' := Lib.hid ho4.row; have XE4 := Lib.hid (Ext.trans XE3.out hx4))
        | (go_at_call 52; ((refine (rleavers_any _ _ _ _ _ _ _ _ (by exact RX4.out) (by exact RC4.out) hn hnc).mono ?_); rintro e v5 ⟨B5, d5, rfl, _, _, ho5, hx5⟩); have RX5 := Lib.hid (Row.ext (w := v4) RX4.out hx5); have RC5 := Lib.hid (Row.ext (w := v4) RC4.out hx5); have y5 : w4.heap.size < v5.heap.size := Nat.lt_of_lt_of_le (by exact y4) hx5.size; have L5 := Lib.hid (Row.ext (w := v4) L4'.out hx5); have L5' := Lib.hid ho5.row; have XE5 := Lib.hid (Ext.trans XE4.out hx5))
        | (go_at_call 30; ((with_reducible refine (same3_refl _ _ _ _ (leavers num xs cut) _ (by exact L5.out) (by exact L5'.out) bl).mono ?_); rintro e v6 ⟨rfl, hs6⟩; have hx6 := hs6.ext); have RX6 := Lib.hid (Row.ext (w := v5) RX5.out hx6); have RC6 := Lib.hid (Row.ext (w := v5) RC5.out hx6); have y6 : w4.heap.size < v6.heap.size := Nat.lt_of_lt_of_le (by exact y5) hx6.size; have XE6 := Lib.hid (Ext.trans XE5.out hx6))
        | (go_at_call 53; ((refine (joiners_any _ _ _ _ _ _ _ _ (by exact RX6.out) (by exact RC6.out) hn hnc).mono ?_); rintro e v7 ⟨B7, d7, rfl, _, _, ho7, hx7⟩); have RX7 := Lib.hid (Row.ext (w := v6) RX6.out hx7); have RC7 := Lib.hid (Row.ext (w := v6) RC6.out hx7); have y7 : w4.heap.size < v7.heap.size := Nat.lt_of_lt_of_le (by exact y6) hx7.size; have L7' := Lib.hid ho7.row; have XE7 := Lib.hid (Ext.trans XE6.out hx7))
        | (go_at_call 54; ((refine (rjoiners_any _ _ _ _ _ _ _ _ (by exact RX7.out) (by exact RC7.out) hn hnc).mono ?_); rintro e v8 ⟨B8, d8, rfl, _, _, ho8, hx8⟩); have RX8 := Lib.hid (Row.ext (w := v7) RX7.out hx8); have RC8 := Lib.hid (Row.ext (w := v7) RC7.out hx8); have y8 : w4.heap.size < v8.heap.size := Nat.lt_of_lt_of_le (by exact y7) hx8.size; have L8 := Lib.hid (Row.ext (w := v7) L7'.out hx8); have L8' := Lib.hid ho8.row; have XE8 := Lib.hid (Ext.trans XE7.out hx8))
        | (go_at_call 30; ((with_reducible refine (same3_refl _ _ _ _ (joiners num xs cut) _ (by exact L8.out) (by exact L8'.out) bj).mono ?_); rintro e v9 ⟨rfl, hs9⟩; have hx9 := hs9.ext); have RX9 := Lib.hid (Row.ext (w := v8) RX8.out hx9); have RC9 := Lib.hid (Row.ext (w := v8) RC8.out hx9); have y9 : w4.heap.size < v9.heap.size := Nat.lt_of_lt_of_le (by exact y8) hx9.size; have XE9 := Lib.hid (Ext.trans XE8.out hx9))
        | (go_at_call 55; ((refine (survivors_any _ _ _ _ _ _ _ _ (by exact RX9.out) (by exact RC9.out) hn hnc).mono ?_); rintro e v10 ⟨B10, d10, rfl, _, _, ho10, hx10⟩); have RX10 := Lib.hid (Row.ext (w := v9) RX9.out hx10); have RC10 := Lib.hid (Row.ext (w := v9) RC9.out hx10); have y10 : w4.heap.size < v10.heap.size := Nat.lt_of_lt_of_le (by exact y9) hx10.size; have L10' := Lib.hid ho10.row; have XE10 := Lib.hid (Ext.trans XE9.out hx10))
        | (go_at_call 56; ((refine (rsurvivors_any _ _ _ _ _ _ _ _ (by exact RX10.out) (by exact RC10.out) hn hnc).mono ?_); rintro e v11 ⟨B11, d11, rfl, _, _, ho11, hx11⟩); have RX11 := Lib.hid (Row.ext (w := v10) RX10.out hx11); have RC11 := Lib.hid (Row.ext (w := v10) RC10.out hx11); have y11 : w4.heap.size < v11.heap.size := Nat.lt_of_lt_of_le (by exact y10) hx11.size; have L11 := Lib.hid (Row.ext (w := v10) L10'.out hx11); have L11' := Lib.hid ho11.row; have XE11 := Lib.hid (Ext.trans XE10.out hx11))
        | (go_at_call 30; ((with_reducible refine (same3_refl _ _ _ _ (survivors num xs cut) _ (by exact L11.out) (by exact L11'.out) bs).mono ?_); rintro e v12 ⟨rfl, hs12⟩; have hx12 := hs12.ext); have RX12 := Lib.hid (Row.ext (w := v11) RX11.out hx12); have RC12 := Lib.hid (Row.ext (w := v11) RC11.out hx12); have y12 : w4.heap.size < v12.heap.size := Nat.lt_of_lt_of_le (by exact y11) hx12.size; have XE12 := Lib.hid (Ext.trans XE11.out hx12)))
    go_wp2
    go_ret
    exact ⟨rfl, X5.out.trans (X6.out.trans XE12.out)⟩
  · have hs' : smallB [(A, xs.length, c), (Ac, cut.length, cc)] = false := by simpa using hs
    refine (small3_any (some ⟨w1.heap.size, 0, none⟩) 2 [(A, xs.length, c), (Ac, cut.length, cc)] _ (row2s (by simp) (by simp)) (by simp)).mono ?_
    rw [hs']
    rintro e w2 ⟨rfl, rfl⟩
    clear hs hs'
    go_wp2
    go_ret
    exact ⟨rfl, X1.out.trans X2.out⟩

theorem walk (num : Int) (A : Option Addr) (c : Nat) (xs : List Int) {w : World} (_hi : I64 num) (hr : Row w A (ints xs)) (hc : xs.length ≤ c) (hm : c ≤ maxLen) (_hx : ∀ x ∈ xs, I64 x)
    (A' : Option Addr) (c' : Nat) (ys : List Int) (hr' : Row w A' (ints ys)) (hc' : ys.length ≤ c') (hm' : c' ≤ maxLen) (_hx' : ∀ x ∈ ys, I64 x) (W : World) (hW : w = W) :
    Calls Try.prog 10 #[.agg #[.int .i64 num, .slice A xs.length c], .slice A' ys.length c'] W fun e w' => e = .returned (.bool true) ∧ Ext W w' := by
  subst hW; unfold maxLen at hm hm'; exact walk0 num A A' c c' xs ys w hr hr' (by omega) (by omega)

open Go.ChangeShapes Go.WideShapes Go.ChangeAt
set_option maxRecDepth 100000 in
theorem lifted (os : Os) (started : os.Started) (H : Type) (enc : TypeId × Value → H) :
    ReturnsInHanded {} Try.checked os 10 .any (Rows.viewNextSpec.pre6 enc Try.prog Try.f10 Rows.viewNextRow.domain false) (Rows.viewNextSpec.post enc Try.prog Try.f10 false true false false) := by
  refine returnsInHanded_of_change (C := Try.checked) own started (by kernel_rfl) Try.func10
    (ChangeSpec.witness6 (enc := enc) (C := Try.checked) false ⟨#[], #[.agg #[.int .i64 0, .slice none 0 0], .slice none 0 0], []⟩ 8 (by kernel_rfl) (by kernel_rfl) (by kernel_rfl) (by kernel_rfl)) ?_
  intro W base args ds gs before hval0 hW hcnd _
  have hval : ∀ (j : Nat) t v, Try.f10.params[j]? = some t → args[j]? = some v → Value.okWide Try.prog W .any base t v := hval0
  have hW' := hW
  obtain ⟨p, q, hA0, hV, rfl, hfz, hnd⟩ := hW
  have hA : DataW.TrodAll enc Try.prog W 0 (fun _ => true) true Try.f10.params.toList args.toList ds p := hA0
  rw [Try.params10] at hA hval
  obtain ⟨v0, vs0, d0, ds0, p0, q0, hargs, rfl, rfl, h0, r0⟩ := trodAll_cons hA
  obtain ⟨v1, vs1, d1, ds1, p1, q1, rfl, rfl, rfl, h1, r1⟩ := trodAll_cons r0
  obtain ⟨rfl, rfl, rfl⟩ := trodAll_nil r1
  obtain rfl : args = #[v0, v1] := by cases args; simp_all
  obtain ⟨rfl, rfl⟩ := trodVars_none hV
  have lt0 : ∀ x ∈ p0, x.block < W.heap.size := by obtain ⟨m, hm⟩ := h0; exact DataW.trod_lt m _ _ _ hm
  have lt1 : ∀ x ∈ p1, x.block < W.heap.size := by obtain ⟨m, hm⟩ := h1; exact DataW.trod_lt m _ _ _ hm
  obtain ⟨n0, A0, c0, x0, e0, hi0, hc0, hm0, hr0, hx0⟩ := argView (hval 0 36 v0 rfl rfl) h0
  obtain ⟨A1, c1, x1, e1, hc1, hm1, hr1, hi1⟩ := argInts (hval 1 22 v1 rfl rfl) h1
  clear hA0 hval0
  have wk := walk n0 A0 c0 x0 hi0 hr0 hc0 hm0 hx0 A1 c1 x1 hr1 hc1 hm1 hi1 W rfl
  rw [← e0, ← e1] at wk
  refine wk.mono fun e W' ⟨he, bel⟩ => ?_
  subst he
  exact ⟨_, rfl, _, _, _, [], _, [], hW', trodAll_mk1 (shut_bool Try.underlying4 _), (trodAll_cons_mk (Below.trod laidOut (by kernel_rfl) (of_decide_eq_true (by kernel_rfl)) h0 bel lt0) (trodAll_cons_mk (Below.trod laidOut (by kernel_rfl) (of_decide_eq_true (by kernel_rfl)) h1 bel lt1) trodAll_mk0)), rfl, bel.frame _, fun h => by cases h⟩

theorem over : Rows.viewNextRow.holds Try.pinned (OpenSpec.ofChange Rows.viewNextSpec) :=
  OpenClaim.holds_of_wide 10 Try.f10 rfl rfl rfl rfl rfl rfl rfl ⟨rfl, rfl, rfl, rfl, rfl⟩ rfl rfl rfl rfl rfl (by kernel_rfl) Try.func10 (by kernel_rfl)
    (of_decide_eq_true (by kernel_rfl)) (by unfold Func.isWrapper; first | (rw [if_pos (by decide +kernel)]; kernel_rfl) | (rw [if_neg (by decide +kernel)]; exact ⟨rfl, rfl⟩))
    (fun os started H enc _ => lifted os started H enc)

/-- the statement -/
theorem proved : Rows.ViewNextSaid := over
#print axioms proved

end Go.Proofs.Ytagmocofmedmjaa.viewNext
