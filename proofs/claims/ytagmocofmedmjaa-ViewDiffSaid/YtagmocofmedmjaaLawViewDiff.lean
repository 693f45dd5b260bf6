/- For every input the statement ViewDiff returns true and leaves its arguments as they were. Conditions: none. -/
import Derived.Test.YtagmocofmedmjaaAwake3
import Derived.Test.YtagmocofmedmjaaSmall3
import Derived.Test.YtagmocofmedmjaaPlain4
import Derived.Test.YtagmocofmedmjaaDiff
import Derived.Test.YtagmocofmedmjaaRowKit
import Derived.Deep.DrawnRows
namespace Go.Proofs.Ytagmocofmedmjaa.viewDiff
open Go.RowKit
attribute [local go_sem ↓] Go.wp_at_zero Go.wp_at_succ

theorem row3s {w : World} {b off n c n' c' n'' c'' : Nat} {a a' a'' : Option Addr} (h0 : w.cell? ⟨b, off, none⟩ = some (.slice a n c)) (h1 : w.cell? ⟨b, off + 1, none⟩ = some (.slice a' n' c')) (h2 : w.cell? ⟨b, off + 2, none⟩ = some (.slice a'' n'' c'')) : Row w (some ⟨b, off, none⟩) (slV [(a, n, c), (a', n', c'), (a'', n'', c'')]) := by
  intro _
  refine ⟨b, off, rfl, World.block_lt_of_cell? w _ h0, fun j v hj => ?_⟩
  match j, hj with
  | 0, hj => simp [slV] at hj; subst hj; exact h0
  | 1, hj => simp [slV] at hj; subst hj; exact h1
  | 2, hj => simp [slV] at hj; subst hj; exact h2

theorem same3_refl (A A' : Option Addr) (c c' : Nat) (xs : List Int) (w : World) (h : Row w A (ints xs)) (h' : Row w A' (ints xs)) (hn : xs.length ≤ 9223372036854775807) :
    Calls Try.prog 30 #[.slice A xs.length c, .slice A' xs.length c'] w fun e w' => e = .returned (.bool true) ∧ Still w w' := by
  have := same3_any A A' c c' xs xs w h h' hn
  rwa [show sameB xs xs = true by simp [sameB]] at this

theorem contains_b (A : Option Addr) (c : Nat) (xs : List Int) (id : Int) (w : World) (h : Row w A (ints xs)) (hn : xs.length ≤ 9223372036854775807) (b : Bool) (hb : hasB xs id = b) :
    Calls Try.prog 20 #[.slice A xs.length c, .int .i64 id] w fun e w' => e = .returned (.bool b) ∧ w = w' := by
  subst hb; exact contains_any A c xs id w h hn
theorem diff_c (n m : Int) (A B : Option Addr) (c d : Nat) (xs ys : List Int) (w : World) (hx : Row w A (ints xs)) (hy : Row w B (ints ys))
    (hn : xs.length ≤ 9223372036854775807) (hm : ys.length ≤ 9223372036854775807) (l : List Int) (hl : diffF n xs m ys = l) :
    Calls Try.prog 61 #[.agg #[.int .i64 n, .slice A xs.length c], .agg #[.int .i64 m, .slice B ys.length d]] w (GivesI w l) := by
  subst hl; exact diff_any n m A B c d xs ys w hx hy hn hm
/-- two views that lie in the blocks b and b + 1 -/
def Two (b : Nat) (v0 v1 v2 v3 : Value) (u : World) : Prop :=
  u.cell? ⟨b, 0, none⟩ = some v0 ∧ u.cell? ⟨b, 1, none⟩ = some v1 ∧ u.cell? ⟨b + 1, 0, none⟩ = some v2 ∧ u.cell? ⟨b + 1, 1, none⟩ = some v3 ∧ b + 1 < u.heap.size
theorem Two.ext {b : Nat} {v0 v1 v2 v3 : Value} {u u' : World} (h : Two b v0 v1 v2 v3 u) (x : Ext u u') : Two b v0 v1 v2 v3 u' := by
  obtain ⟨h0, h1, h2, h3, hz⟩ := h
  have := x.size
  refine ⟨?_, ?_, ?_, ?_, by omega⟩
  · rw [x.cell (by simp only; omega)]; exact h0
  · rw [x.cell (by simp only; omega)]; exact h1
  · rw [x.cell (by simp only; omega)]; exact h2
  · rw [x.cell (by simp only; omega)]; exact h3
theorem two_new (w : World) (n m : Int) (s s' : Value) : Two w.heap.size (.int .i64 n) s (.int .i64 m) s' (twoBox w n s m s') := by
  refine ⟨?_, ?_, ?_, ?_, ?_⟩ <;> simp [twoBox]

set_option maxRecDepth 100000 in
set_option maxHeartbeats 4000000 in
theorem walkff (num m : Int) (A B Ac : Option Addr) (c d cc : Nat) (xs ys cut : List Int) (id : Int) (w : World) (hx : Row w A (ints xs)) (hy : Row w B (ints ys)) (hc : Row w Ac (ints cut)) (hn : xs.length ≤ 9223372036854775807) (hm : ys.length ≤ 9223372036854775807) (hnc : cut.length ≤ 9223372036854775807)
    (hs : smallB [(A, xs.length, c), (B, ys.length, d), (Ac, cut.length, cc)] = true) (hv : validB num xs = true) (hw : validB m ys = true) (hi0 : hasB xs id = false) (ho0 : hasB ys id = false) :
    Calls Try.prog 13 #[.agg #[.int .i64 num, .slice A xs.length c], .agg #[.int .i64 m, .slice B ys.length d], .slice Ac cut.length cc, .int .i64 id] w fun e w' => e = .returned (.bool true) ∧ Ext w w' := by
  have HI := Lib.hid hi0; have HO := Lib.hid ho0; have HSM := Lib.hid hs; have HVV := Lib.hid hv; have HWV := Lib.hid hw
  obtain ⟨dl, hdl0⟩ : ∃ dl, diffF num xs m ys = dl := ⟨_, rfl⟩
  have HDL := Lib.hid hdl0
  have HDS : Hid (diffF m ys num xs = dl) := Lib.hid (by rw [← hdl0]; exact (diff_symm hv hw).symm)
  have HDH : Hid (hasB dl id = (false != false)) := Lib.hid (by rw [← hdl0, diff_has hv hw, hi0, ho0])
  have HDD := Lib.hid (diff_self hv)
  have hdl : dl.length ≤ 9223372036854775807 := by
    have := among_len xs ys false; have := among_len ys xs false; have := (validB_len hv).2; have := (validB_len hw).2
    rw [← hdl0, diffF_yes hv hw, len_mergeL]; omega
  clear hi0 ho0 hs hv hw hdl0
  have H0 := Lib.hid (twoBox_ext w num m (.slice A xs.length c) (.slice B ys.length d))
  have HX := Lib.hid (hx.ext H0.out); have HY := Lib.hid (hy.ext H0.out); have HC := Lib.hid (hc.ext H0.out)
  have T0 := Lib.hid (two_new w num m (.slice A xs.length c) (.slice B ys.length d))
  clear hx hy hc
  go_enter Try.func13, Try.ntmps13
  go_wp2_with fail
  refine (awake3_any _).mono ?_
  rintro e w1 ⟨rfl, hx1⟩
  have T1 := Lib.hid (Two.ext T0.out (by exact hx1))
  have HX1 := Lib.hid (Row.ext HX.out (by exact hx1)); have HY1 := Lib.hid (Row.ext HY.out (by exact hx1)); have HC1 := Lib.hid (Row.ext HC.out (by exact hx1))
  have X1 := Lib.hid (Ext.trans H0.out (by exact hx1))
  obtain ⟨q0, q1, q2, q3, z1⟩ := T1.out; have zz1 := Nat.lt_of_succ_lt z1
  clear hx1 HX HY HC H0 T0
  go_wp2_with fail
  have X2 := Lib.hid (Ext.new w1 (.cells #[.slice A xs.length c, .slice B ys.length d, .slice Ac cut.length cc] 22))
  refine (small3_any (some ⟨w1.heap.size, 0, none⟩) 3 [(A, xs.length, c), (B, ys.length, d), (Ac, cut.length, cc)] _ (row3s (by simp) (by simp) (by simp)) (by simp)).mono ?_
  rw [HSM.out]
  rintro e w2 ⟨rfl, rfl⟩
  go_wp2_with fail
  refine (next_any num A Ac c cc xs cut _ (HX1.out.ext X2.out) (HC1.out.ext X2.out) hn hnc).mono ?_
  rintro e w3 ⟨A3, c3, rfl, hc3, hm3, ho3, hx3⟩
  have X23 := Lib.hid (X2.out.trans hx3)
  have T3 := Lib.hid (T1.out.ext X23.out)
  have HX3 := Lib.hid (HX1.out.ext X23.out); have HY3 := Lib.hid (HY1.out.ext X23.out); have HC3 := Lib.hid (HC1.out.ext X23.out)
  have X3 := Lib.hid (X1.out.trans X23.out)
  have HR3 := Lib.hid ho3.row
  clear hx3 q0 q1 q2 q3 z1 HX1 HY1 HC1 X2 X1 X23 ho3 T1
  obtain ⟨q0, q1, q2, q3, z3⟩ := T3.out; have zz3 := Nat.lt_of_succ_lt z3
  generalize hN : nextF num xs cut = r at *
  obtain ⟨n', zs, er⟩ := r
  simp only at *
  have X4 := Lib.hid (Ext.new w3 (.cells #[.int .i64 n', .slice A3 zs.length c3] 36))
  by_cases he : er = 0
  · subst he
    have HD := Lib.hid (diff_next hN)
    have hzl : zs.length ≤ 16 := (validB_len (nextF_inv hN).2.2.2.2.2.2.2.2).2
    clear hN
    go_wp2_with fail
    refine (diff_c num n' A A3 c c3 xs zs _ (HX3.out.ext X4.out) (HR3.out.ext X4.out) hn (by omega) cut HD.out.1).mono ?_
    rintro e w5 ⟨A5, c5, rfl, hc5, hm5, ho5, hx5⟩
    have b0 : w5.cell? ⟨w3.heap.size, 0, none⟩ = some (.int .i64 n') := by simpa using hx5.cell_new 0
    have b1 : w5.cell? ⟨w3.heap.size, 1, none⟩ = some (.slice A3 zs.length c3) := by simpa using hx5.cell_new 1
    have y5 : w3.heap.size < w5.heap.size := by have := hx5.size; simp at this; omega
    have X45 := Lib.hid (X4.out.trans hx5)
    have T5 := Lib.hid (T3.out.ext X45.out)
    have HX5 := Lib.hid (HX3.out.ext X45.out); have HY5 := Lib.hid (HY3.out.ext X45.out); have HC5 := Lib.hid (HC3.out.ext X45.out); have HR5 := Lib.hid (HR3.out.ext X45.out)
    have X5 := Lib.hid (X3.out.trans X45.out)
    have HO5 := Lib.hid ho5.row
    clear hx5 q0 q1 q2 q3 z3 HX3 HY3 HC3 HR3 X3 X4 X45 ho5 T3
    obtain ⟨q0, q1, q2, q3, z5⟩ := T5.out; have zz5 := Nat.lt_of_succ_lt z5
    go_wp2_with fail
    refine (same3_refl _ _ _ _ cut _ HO5.out HC5.out hnc).mono ?_
    rintro e w6 ⟨rfl, hs6⟩
    have b0' : w6.cell? ⟨w3.heap.size, 0, none⟩ = some (.int .i64 n') := by rw [hs6.ext.cell y5]; exact b0
    have b1' : w6.cell? ⟨w3.heap.size, 1, none⟩ = some (.slice A3 zs.length c3) := by rw [hs6.ext.cell y5]; exact b1
    have T6 := Lib.hid (T5.out.ext hs6.ext)
    have HX6 := Lib.hid (HX5.out.ext hs6.ext); have HY6 := Lib.hid (HY5.out.ext hs6.ext); have HC6 := Lib.hid (HC5.out.ext hs6.ext); have HR6 := Lib.hid (HR5.out.ext hs6.ext)
    have X6 := Lib.hid (X5.out.trans hs6.ext)
    clear hs6 q0 q1 q2 q3 z5 HX5 HY5 HC5 HR5 X5 HO5 T5 b0 b1 y5
    obtain ⟨q0, q1, q2, q3, z6⟩ := T6.out; have zz6 := Nat.lt_of_succ_lt z6
    go_wp2_with fail
    refine (diff_c n' num A3 A c3 c zs xs _ HR6.out HX6.out (by omega) hn cut HD.out.2).mono ?_
    rintro e w7 ⟨A7, c7, rfl, hc7, hm7, ho7, hx7⟩
    have T7 := Lib.hid (T6.out.ext hx7)
    have HX7 := Lib.hid (HX6.out.ext hx7); have HY7 := Lib.hid (HY6.out.ext hx7); have HC7 := Lib.hid (HC6.out.ext hx7)
    have X7 := Lib.hid (X6.out.trans hx7)
    have HO7 := Lib.hid ho7.row
    clear hx7 q0 q1 q2 q3 z6 HX6 HY6 HC6 HR6 X6 T6 b0' b1' ho7
    go_wp2_with fail
    refine (same3_refl _ _ _ _ cut _ HO7.out HC7.out hnc).mono ?_
    rintro e w8 ⟨rfl, hs8⟩
    have TU := Lib.hid (T7.out.ext hs8.ext)
    have HXU := Lib.hid (HX7.out.ext hs8.ext); have HYU := Lib.hid (HY7.out.ext hs8.ext)
    have XU := Lib.hid (X7.out.trans hs8.ext)
    clear hs8 HX7 HY7 HC7 X7 HO7 T7 HD
    obtain ⟨q0, q1, q2, q3, z8⟩ := TU.out; have zz8 := Nat.lt_of_succ_lt z8
    go_wp2_with fail
    refine (valid_yes num A c xs _ HXU.out hn HVV.out).mono ?_
    rintro e w9 ⟨rfl, hx9⟩
    have T9 := Lib.hid (TU.out.ext hx9)
    have HX9 := Lib.hid (HXU.out.ext hx9); have HY9 := Lib.hid (HYU.out.ext hx9)
    have X9 := Lib.hid (XU.out.trans hx9)
    clear hx9 q0 q1 q2 q3 HXU HYU XU TU
    obtain ⟨q0, q1, q2, q3, z9⟩ := T9.out; have zz9 := Nat.lt_of_succ_lt z9
    go_wp2_with fail
    refine (valid_yes m B d ys _ HY9.out hm HWV.out).mono ?_
    rintro e w10 ⟨rfl, hx10⟩
    have T10 := Lib.hid (T9.out.ext hx10)
    have HX10 := Lib.hid (HX9.out.ext hx10); have HY10 := Lib.hid (HY9.out.ext hx10)
    have X10 := Lib.hid (X9.out.trans hx10)
    clear hx10 q0 q1 q2 q3 HX9 HY9 X9 T9
    obtain ⟨q0, q1, q2, q3, z10⟩ := T10.out; have zz10 := Nat.lt_of_succ_lt z10
    go_wp2_with fail
    refine (diff_c num m A B c d xs ys _ HX10.out HY10.out hn hm dl HDL.out).mono ?_
    rintro e w11 ⟨A11, c11, rfl, hc11, hm11, ho11, hx11⟩
    have T11 := Lib.hid (T10.out.ext hx11)
    have RX0 := Lib.hid (HX10.out.ext hx11.drew); have RY0 := Lib.hid (HY10.out.ext hx11.drew); have RD0 := Lib.hid (ho11.row.ext (Ext.drew (Ext.refl w11)))
    have X11 := Lib.hid (X10.out.trans hx11.drew)
    clear hx11 q0 q1 q2 q3 z10 HX10 HY10 X10 T10 ho11
    obtain ⟨q0, q1, q2, q3, z11⟩ := T11.out; have zz11 := Nat.lt_of_succ_lt z11
    go_wp2
    go_region_held3 (fun w' => w'.cell? ⟨w.heap.size, 0, none⟩ = some (.int .i64 num) ∧ w'.cell? ⟨w.heap.size, 1, none⟩ = some (.slice A xs.length c) ∧ w'.cell? ⟨w.heap.size + 1, 0, none⟩ = some (.int .i64 m) ∧ w'.cell? ⟨w.heap.size + 1, 1, none⟩ = some (.slice B ys.length d))
      (first | (go_keep; done) | (go_split_ands; (repeat' apply And.intro) <;> first | (go_keep; done) | (rw [hx6.cell (by simp only <;> omega)]; assumption) | (rw [hx5.cell (by simp only <;> omega)]; assumption) | (rw [hx4.cell (by simp only <;> omega)]; assumption) | (rw [hx3.cell (by simp only <;> omega)]; assumption) | (rw [hx2.cell (by simp only <;> omega)]; assumption) | (rw [hx1.cell (by simp <;> omega)]; assumption)))
      (first
        | (go_at_call 61; ((with_reducible refine (diff_c m num B A d c ys xs _ (by exact RY0.out) (by exact RX0.out) hm hn dl (by exact HDS.out)).mono ?_); rintro e v1 ⟨B1, d1, rfl, hcd1, _, ho1, hx1⟩); have RX1 := Lib.hid (Row.ext (w := w11.drew) RX0.out hx1); have RY1 := Lib.hid (Row.ext (w := w11.drew) RY0.out hx1); have RD1 := Lib.hid (Row.ext (w := w11.drew) RD0.out hx1); have y1 : w.heap.size + 1 < v1.heap.size := Nat.lt_of_lt_of_le (by exact z11) hx1.size; have XE1 := Lib.hid hx1; have D1 := Lib.hid ho1.row)
        | (go_at_call 30; ((with_reducible refine (same3_refl _ _ _ _ dl _ (by exact RD1.out) (by exact D1.out) hdl).mono ?_); rintro e v2 ⟨rfl, hs2⟩; have hx2 := hs2.ext); have RX2 := Lib.hid (Row.ext (w := v1) RX1.out hx2); have RY2 := Lib.hid (Row.ext (w := v1) RY1.out hx2); have RD2 := Lib.hid (Row.ext (w := v1) RD1.out hx2); have y2 : w.heap.size + 1 < v2.heap.size := Nat.lt_of_lt_of_le (by exact y1) hx2.size; have XE2 := Lib.hid (Ext.trans XE1.out hx2))
        | (go_at_call 20; ((with_reducible refine (contains_b _ _ dl id _ (by exact RD2.out) hdl _ (by exact HDH.out)).mono ?_); rintro e v3 ⟨rfl, he3⟩; have hx3 : Ext (v2) v3 := he3 ▸ Ext.refl _); have RX3 := Lib.hid (Row.ext (w := v2) RX2.out hx3); have RY3 := Lib.hid (Row.ext (w := v2) RY2.out hx3); have RD3 := Lib.hid (Row.ext (w := v2) RD2.out hx3); have y3 : w.heap.size + 1 < v3.heap.size := Nat.lt_of_lt_of_le (by exact y2) hx3.size; have XE3 := Lib.hid (Ext.trans XE2.out hx3))
        | (go_at_call 20; ((with_reducible refine (contains_b _ _ xs id _ (by exact RX3.out) hn _ (by exact HI.out)).mono ?_); rintro e v4 ⟨rfl, he4⟩; have hx4 : Ext (v3) v4 := he4 ▸ Ext.refl _); have RX4 := Lib.hid (Row.ext (w := v3) RX3.out hx4); have RY4 := Lib.hid (Row.ext (w := v3) RY3.out hx4); have RD4 := Lib.hid (Row.ext (w := v3) RD3.out hx4); have y4 : w.heap.size + 1 < v4.heap.size := Nat.lt_of_lt_of_le (by exact y3) hx4.size; have XE4 := Lib.hid (Ext.trans XE3.out hx4))
        | (go_at_call 20; ((with_reducible refine (contains_b _ _ ys id _ (by exact RY4.out) hm _ (by exact HO.out)).mono ?_); rintro e v5 ⟨rfl, he5⟩; have hx5 : Ext (v4) v5 := he5 ▸ Ext.refl _); have RX5 := Lib.hid (Row.ext (w := v4) RX4.out hx5); have RY5 := Lib.hid (Row.ext (w := v4) RY4.out hx5); have RD5 := Lib.hid (Row.ext (w := v4) RD4.out hx5); have y5 : w.heap.size + 1 < v5.heap.size := Nat.lt_of_lt_of_le (by exact y4) hx5.size; have XE5 := Lib.hid (Ext.trans XE4.out hx5))
        | (go_at_call 61; ((with_reducible refine (diff_c num num A A c c xs xs _ (by exact RX5.out) (by exact RX5.out) hn hn [] (by exact HDD.out)).mono ?_); rintro e v6 ⟨B6, d6, rfl, hcd6, _, ho6, hx6⟩); have RX6 := Lib.hid (Row.ext (w := v5) RX5.out hx6); have RY6 := Lib.hid (Row.ext (w := v5) RY5.out hx6); have RD6 := Lib.hid (Row.ext (w := v5) RD5.out hx6); have y6 : w.heap.size + 1 < v6.heap.size := Nat.lt_of_lt_of_le (by exact y5) hx6.size; have XE6 := Lib.hid (Ext.trans XE5.out hx6)))
    go_wp2
    go_ret
    exact ⟨rfl, X11.out.trans XE6.out⟩
  · have he' : (er == 0) = false := by simpa using he
    have TU := Lib.hid (T3.out.ext X4.out)
    have HXU := Lib.hid (HX3.out.ext X4.out); have HYU := Lib.hid (HY3.out.ext X4.out)
    have XU := Lib.hid (X3.out.trans X4.out)
    clear hN he HX3 HY3 HC3 HR3 X3 X4 T3
    go_wp2_with fail
    refine (valid_yes num A c xs _ HXU.out hn HVV.out).mono ?_
    rintro e w9 ⟨rfl, hx9⟩
    have T9 := Lib.hid (TU.out.ext hx9)
    have HX9 := Lib.hid (HXU.out.ext hx9); have HY9 := Lib.hid (HYU.out.ext hx9)
    have X9 := Lib.hid (XU.out.trans hx9)
    clear hx9 q0 q1 q2 q3 HXU HYU XU TU
    obtain ⟨q0, q1, q2, q3, z9⟩ := T9.out; have zz9 := Nat.lt_of_succ_lt z9
    go_wp2_with fail
    refine (valid_yes m B d ys _ HY9.out hm HWV.out).mono ?_
    rintro e w10 ⟨rfl, hx10⟩
    have T10 := Lib.hid (T9.out.ext hx10)
    have HX10 := Lib.hid (HX9.out.ext hx10); have HY10 := Lib.hid (HY9.out.ext hx10)
    have X10 := Lib.hid (X9.out.trans hx10)
    clear hx10 q0 q1 q2 q3 HX9 HY9 X9 T9
    obtain ⟨q0, q1, q2, q3, z10⟩ := T10.out; have zz10 := Nat.lt_of_succ_lt z10
    go_wp2_with fail
    refine (diff_c num m A B c d xs ys _ HX10.out HY10.out hn hm dl HDL.out).mono ?_
    rintro e w11 ⟨A11, c11, rfl, hc11, hm11, ho11, hx11⟩
    have T11 := Lib.hid (T10.out.ext hx11)
    have RX0 := Lib.hid (HX10.out.ext hx11.drew); have RY0 := Lib.hid (HY10.out.ext hx11.drew); have RD0 := Lib.hid (ho11.row.ext (Ext.drew (Ext.refl w11)))
    have X11 := Lib.hid (X10.out.trans hx11.drew)
    clear hx11 q0 q1 q2 q3 z10 HX10 HY10 X10 T10 ho11
    obtain ⟨q0, q1, q2, q3, z11⟩ := T11.out; have zz11 := Nat.lt_of_succ_lt z11
    go_wp2
    go_region_held3 (fun w' => w'.cell? ⟨w.heap.size, 0, none⟩ = some (.int .i64 num) ∧ w'.cell? ⟨w.heap.size, 1, none⟩ = some (.slice A xs.length c) ∧ w'.cell? ⟨w.heap.size + 1, 0, none⟩ = some (.int .i64 m) ∧ w'.cell? ⟨w.heap.size + 1, 1, none⟩ = some (.slice B ys.length d))
      (first | (go_keep; done) | (go_split_ands; (repeat' apply And.intro) <;> first | (go_keep; done) | (rw [hx6.cell (by simp only <;> omega)]; assumption) | (rw [hx5.cell (by simp only <;> omega)]; assumption) | (rw [hx4.cell (by simp only <;> omega)]; assumption) | (rw [hx3.cell (by simp only <;> omega)]; assumption) | (rw [hx2.cell (by simp only <;> omega)]; assumption) | (rw [hx1.cell (by simp <;> omega)]; assumption)))
      (first
        | (go_at_call 61; ((with_reducible refine (diff_c m num B A d c ys xs _ (by exact RY0.out) (by exact RX0.out) hm hn dl (by exact HDS.out)).mono ?_); rintro e v1 ⟨B1, d1, rfl, hcd1, _, ho1, hx1⟩); have RX1 := Lib.hid (Row.ext (w := w11.drew) RX0.out hx1); have RY1 := Lib.hid (Row.ext (w := w11.drew) RY0.out hx1); have RD1 := Lib.hid (Row.ext (w := w11.drew) RD0.out hx1); have y1 : w.heap.size + 1 < v1.heap.size := Nat.lt_of_lt_of_le (by exact z11) hx1.size; have XE1 := Lib.hid hx1; have D1 := Lib.hid ho1.row)
        | (go_at_call 30; ((with_reducible refine (same3_refl _ _ _ _ dl _ (by exact RD1.out) (by exact D1.out) hdl).mono ?_); rintro e v2 ⟨rfl, hs2⟩; have hx2 := hs2.ext); have RX2 := Lib.hid (Row.ext (w := v1) RX1.out hx2); have RY2 := Lib.hid (Row.ext (w := v1) RY1.out hx2); have RD2 := Lib.hid (Row.ext (w := v1) RD1.out hx2); have y2 : w.heap.size + 1 < v2.heap.size := Nat.lt_of_lt_of_le (by exact y1) hx2.size; have XE2 := Lib.hid (Ext.trans XE1.out hx2))
        | (go_at_call 20; ((with_reducible refine (contains_b _ _ dl id _ (by exact RD2.out) hdl _ (by exact HDH.out)).mono ?_); rintro e v3 ⟨rfl, he3⟩; have hx3 : Ext (v2) v3 := he3 ▸ Ext.refl _); have RX3 := Lib.hid (Row.ext (w := v2) RX2.out hx3); have RY3 := Lib.hid (Row.ext (w := v2) RY2.out hx3); have RD3 := Lib.hid (Row.ext (w := v2) RD2.out hx3); have y3 : w.heap.size + 1 < v3.heap.size := Nat.lt_of_lt_of_le (by exact y2) hx3.size; have XE3 := Lib.hid (Ext.trans XE2.out hx3))
        | (go_at_call 20; ((with_reducible refine (contains_b _ _ xs id _ (by exact RX3.out) hn _ (by exact HI.out)).mono ?_); rintro e v4 ⟨rfl, he4⟩; have hx4 : Ext (v3) v4 := he4 ▸ Ext.refl _); have RX4 := Lib.hid (Row.ext (w := v3) RX3.out hx4); have RY4 := Lib.hid (Row.ext (w := v3) RY3.out hx4); have RD4 := Lib.hid (Row.ext (w := v3) RD3.out hx4); have y4 : w.heap.size + 1 < v4.heap.size := Nat.lt_of_lt_of_le (by exact y3) hx4.size; have XE4 := Lib.hid (Ext.trans XE3.out hx4))
        | (go_at_call 20; ((with_reducible refine (contains_b _ _ ys id _ (by exact RY4.out) hm _ (by exact HO.out)).mono ?_); rintro e v5 ⟨rfl, he5⟩; have hx5 : Ext (v4) v5 := he5 ▸ Ext.refl _); have RX5 := Lib.hid (Row.ext (w := v4) RX4.out hx5); have RY5 := Lib.hid (Row.ext (w := v4) RY4.out hx5); have RD5 := Lib.hid (Row.ext (w := v4) RD4.out hx5); have y5 : w.heap.size + 1 < v5.heap.size := Nat.lt_of_lt_of_le (by exact y4) hx5.size; have XE5 := Lib.hid (Ext.trans XE4.out hx5))
        | (go_at_call 61; ((with_reducible refine (diff_c num num A A c c xs xs _ (by exact RX5.out) (by exact RX5.out) hn hn [] (by exact HDD.out)).mono ?_); rintro e v6 ⟨B6, d6, rfl, hcd6, _, ho6, hx6⟩); have RX6 := Lib.hid (Row.ext (w := v5) RX5.out hx6); have RY6 := Lib.hid (Row.ext (w := v5) RY5.out hx6); have RD6 := Lib.hid (Row.ext (w := v5) RD5.out hx6); have y6 : w.heap.size + 1 < v6.heap.size := Nat.lt_of_lt_of_le (by exact y5) hx6.size; have XE6 := Lib.hid (Ext.trans XE5.out hx6)))
    go_wp2
    go_ret
    exact ⟨rfl, X11.out.trans XE6.out⟩

set_option maxRecDepth 100000 in
set_option maxHeartbeats 4000000 in
theorem walkft (num m : Int) (A B Ac : Option Addr) (c d cc : Nat) (xs ys cut : List Int) (id : Int) (w : World) (hx : Row w A (ints xs)) (hy : Row w B (ints ys)) (hc : Row w Ac (ints cut)) (hn : xs.length ≤ 9223372036854775807) (hm : ys.length ≤ 9223372036854775807) (hnc : cut.length ≤ 9223372036854775807)
    (hs : smallB [(A, xs.length, c), (B, ys.length, d), (Ac, cut.length, cc)] = true) (hv : validB num xs = true) (hw : validB m ys = true) (hi0 : hasB xs id = false) (ho0 : hasB ys id = true) :
    Calls Try.prog 13 #[.agg #[.int .i64 num, .slice A xs.length c], .agg #[.int .i64 m, .slice B ys.length d], .slice Ac cut.length cc, .int .i64 id] w fun e w' => e = .returned (.bool true) ∧ Ext w w' := by
  have HI := Lib.hid hi0; have HO := Lib.hid ho0; have HSM := Lib.hid hs; have HVV := Lib.hid hv; have HWV := Lib.hid hw
  obtain ⟨dl, hdl0⟩ : ∃ dl, diffF num xs m ys = dl := ⟨_, rfl⟩
  have HDL := Lib.hid hdl0
  have HDS : Hid (diffF m ys num xs = dl) := Lib.hid (by rw [← hdl0]; exact (diff_symm hv hw).symm)
  have HDH : Hid (hasB dl id = (false != true)) := Lib.hid (by rw [← hdl0, diff_has hv hw, hi0, ho0])
  have HDD := Lib.hid (diff_self hv)
  have hdl : dl.length ≤ 9223372036854775807 := by
    have := among_len xs ys false; have := among_len ys xs false; have := (validB_len hv).2; have := (validB_len hw).2
    rw [← hdl0, diffF_yes hv hw, len_mergeL]; omega
  clear hi0 ho0 hs hv hw hdl0
  have H0 := Lib.hid (twoBox_ext w num m (.slice A xs.length c) (.slice B ys.length d))
  have HX := Lib.hid (hx.ext H0.out); have HY := Lib.hid (hy.ext H0.out); have HC := Lib.hid (hc.ext H0.out)
  have T0 := Lib.hid (two_new w num m (.slice A xs.length c) (.slice B ys.length d))
  clear hx hy hc
  go_enter Try.func13, Try.ntmps13
  go_wp2_with fail
  refine (awake3_any _).mono ?_
  rintro e w1 ⟨rfl, hx1⟩
  have T1 := Lib.hid (Two.ext T0.out (by exact hx1))
  have HX1 := Lib.hid (Row.ext HX.out (by exact hx1)); have HY1 := Lib.hid (Row.ext HY.out (by exact hx1)); have HC1 := Lib.hid (Row.ext HC.out (by exact hx1))
  have X1 := Lib.hid (Ext.trans H0.out (by exact hx1))
  obtain ⟨q0, q1, q2, q3, z1⟩ := T1.out; have zz1 := Nat.lt_of_succ_lt z1
  clear hx1 HX HY HC H0 T0
  go_wp2_with fail
  have X2 := Lib.hid (Ext.new w1 (.cells #[.slice A xs.length c, .slice B ys.length d, .slice Ac cut.length cc] 22))
  refine (small3_any (some ⟨w1.heap.size, 0, none⟩) 3 [(A, xs.length, c), (B, ys.length, d), (Ac, cut.length, cc)] _ (row3s (by simp) (by simp) (by simp)) (by simp)).mono ?_
  rw [HSM.out]
  rintro e w2 ⟨rfl, rfl⟩
  go_wp2_with fail
  refine (next_any num A Ac c cc xs cut _ (HX1.out.ext X2.out) (HC1.out.ext X2.out) hn hnc).mono ?_
  rintro e w3 ⟨A3, c3, rfl, hc3, hm3, ho3, hx3⟩
  have X23 := Lib.hid (X2.out.trans hx3)
  have T3 := Lib.hid (T1.out.ext X23.out)
  have HX3 := Lib.hid (HX1.out.ext X23.out); have HY3 := Lib.hid (HY1.out.ext X23.out); have HC3 := Lib.hid (HC1.out.ext X23.out)
  have X3 := Lib.hid (X1.out.trans X23.out)
  have HR3 := Lib.hid ho3.row
  clear hx3 q0 q1 q2 q3 z1 HX1 HY1 HC1 X2 X1 X23 ho3 T1
  obtain ⟨q0, q1, q2, q3, z3⟩ := T3.out; have zz3 := Nat.lt_of_succ_lt z3
  generalize hN : nextF num xs cut = r at *
  obtain ⟨n', zs, er⟩ := r
  simp only at *
  have X4 := Lib.hid (Ext.new w3 (.cells #[.int .i64 n', .slice A3 zs.length c3] 36))
  by_cases he : er = 0
  · subst he
    have HD := Lib.hid (diff_next hN)
    have hzl : zs.length ≤ 16 := (validB_len (nextF_inv hN).2.2.2.2.2.2.2.2).2
    clear hN
    go_wp2_with fail
    refine (diff_c num n' A A3 c c3 xs zs _ (HX3.out.ext X4.out) (HR3.out.ext X4.out) hn (by omega) cut HD.out.1).mono ?_
    rintro e w5 ⟨A5, c5, rfl, hc5, hm5, ho5, hx5⟩
    have b0 : w5.cell? ⟨w3.heap.size, 0, none⟩ = some (.int .i64 n') := by simpa using hx5.cell_new 0
    have b1 : w5.cell? ⟨w3.heap.size, 1, none⟩ = some (.slice A3 zs.length c3) := by simpa using hx5.cell_new 1
    have y5 : w3.heap.size < w5.heap.size := by have := hx5.size; simp at this; omega
    have X45 := Lib.hid (X4.out.trans hx5)
    have T5 := Lib.hid (T3.out.ext X45.out)
    have HX5 := Lib.hid (HX3.out.ext X45.out); have HY5 := Lib.hid (HY3.out.ext X45.out); have HC5 := Lib.hid (HC3.out.ext X45.out); have HR5 := Lib.hid (HR3.out.ext X45.out)
    have X5 := Lib.hid (X3.out.trans X45.out)
    have HO5 := Lib.hid ho5.row
    clear hx5 q0 q1 q2 q3 z3 HX3 HY3 HC3 HR3 X3 X4 X45 ho5 T3
    obtain ⟨q0, q1, q2, q3, z5⟩ := T5.out; have zz5 := Nat.lt_of_succ_lt z5
    go_wp2_with fail
    refine (same3_refl _ _ _ _ cut _ HO5.out HC5.out hnc).mono ?_
    rintro e w6 ⟨rfl, hs6⟩
    have b0' : w6.cell? ⟨w3.heap.size, 0, none⟩ = some (.int .i64 n') := by rw [hs6.ext.cell y5]; exact b0
    have b1' : w6.cell? ⟨w3.heap.size, 1, none⟩ = some (.slice A3 zs.length c3) := by rw [hs6.ext.cell y5]; exact b1
    have T6 := Lib.hid (T5.out.ext hs6.ext)
    have HX6 := Lib.hid (HX5.out.ext hs6.ext); have HY6 := Lib.hid (HY5.out.ext hs6.ext); have HC6 := Lib.hid (HC5.out.ext hs6.ext); have HR6 := Lib.hid (HR5.out.ext hs6.ext)
    have X6 := Lib.hid (X5.out.trans hs6.ext)
    clear hs6 q0 q1 q2 q3 z5 HX5 HY5 HC5 HR5 X5 HO5 T5 b0 b1 y5
    obtain ⟨q0, q1, q2, q3, z6⟩ := T6.out; have zz6 := Nat.lt_of_succ_lt z6
    go_wp2_with fail
    refine (diff_c n' num A3 A c3 c zs xs _ HR6.out HX6.out (by omega) hn cut HD.out.2).mono ?_
    rintro e w7 ⟨A7, c7, rfl, hc7, hm7, ho7, hx7⟩
    have T7 := Lib.hid (T6.out.ext hx7)
    have HX7 := Lib.hid (HX6.out.ext hx7); have HY7 := Lib.hid (HY6.out.ext hx7); have HC7 := Lib.hid (HC6.out.ext hx7)
    have X7 := Lib.hid (X6.out.trans hx7)
    have HO7 := Lib.hid ho7.row
    clear hx7 q0 q1 q2 q3 z6 HX6 HY6 HC6 HR6 X6 T6 b0' b1' ho7
    go_wp2_with fail
    refine (same3_refl _ _ _ _ cut _ HO7.out HC7.out hnc).mono ?_
    rintro e w8 ⟨rfl, hs8⟩
    have TU := Lib.hid (T7.out.ext hs8.ext)
    have HXU := Lib.hid (HX7.out.ext hs8.ext); have HYU := Lib.hid (HY7.out.ext hs8.ext)
    have XU := Lib.hid (X7.out.trans hs8.ext)
    clear hs8 HX7 HY7 HC7 X7 HO7 T7 HD
    obtain ⟨q0, q1, q2, q3, z8⟩ := TU.out; have zz8 := Nat.lt_of_succ_lt z8
    go_wp2_with fail
    refine (valid_yes num A c xs _ HXU.out hn HVV.out).mono ?_
    rintro e w9 ⟨rfl, hx9⟩
    have T9 := Lib.hid (TU.out.ext hx9)
    have HX9 := Lib.hid (HXU.out.ext hx9); have HY9 := Lib.hid (HYU.out.ext hx9)
    have X9 := Lib.hid (XU.out.trans hx9)
    clear hx9 q0 q1 q2 q3 HXU HYU XU TU
    obtain ⟨q0, q1, q2, q3, z9⟩ := T9.out; have zz9 := Nat.lt_of_succ_lt z9
    go_wp2_with fail
    refine (valid_yes m B d ys _ HY9.out hm HWV.out).mono ?_
    rintro e w10 ⟨rfl, hx10⟩
    have T10 := Lib.hid (T9.out.ext hx10)
    have HX10 := Lib.hid (HX9.out.ext hx10); have HY10 := Lib.hid (HY9.out.ext hx10)
    have X10 := Lib.hid (X9.out.trans hx10)
    clear hx10 q0 q1 q2 q3 HX9 HY9 X9 T9
    obtain ⟨q0, q1, q2, q3, z10⟩ := T10.out; have zz10 := Nat.lt_of_succ_lt z10
    go_wp2_with fail
    refine (diff_c num m A B c d xs ys _ HX10.out HY10.out hn hm dl HDL.out).mono ?_
    rintro e w11 ⟨A11, c11, rfl, hc11, hm11, ho11, hx11⟩
    have T11 := Lib.hid (T10.out.ext hx11)
    have RX0 := Lib.hid (HX10.out.ext hx11.drew); have RY0 := Lib.hid (HY10.out.ext hx11.drew); have RD0 := Lib.hid (ho11.row.ext (Ext.drew (Ext.refl w11)))
    have X11 := Lib.hid (X10.out.trans hx11.drew)
    clear hx11 q0 q1 q2 q3 z10 HX10 HY10 X10 T10 ho11
    obtain ⟨q0, q1, q2, q3, z11⟩ := T11.out; have zz11 := Nat.lt_of_succ_lt z11
    go_wp2
    go_region_held3 (fun w' => w'.cell? ⟨w.heap.size, 0, none⟩ = some (.int .i64 num) ∧ w'.cell? ⟨w.heap.size, 1, none⟩ = some (.slice A xs.length c) ∧ w'.cell? ⟨w.heap.size + 1, 0, none⟩ = some (.int .i64 m) ∧ w'.cell? ⟨w.heap.size + 1, 1, none⟩ = some (.slice B ys.length d))
      (first | (go_keep; done) | (go_split_ands; (repeat' apply And.intro) <;> first | (go_keep; done) | (rw [hx6.cell (by simp only <;> omega)]; assumption) | (rw [hx5.cell (by simp only <;> omega)]; assumption) | (rw [hx4.cell (by simp only <;> omega)]; assumption) | (rw [hx3.cell (by simp only <;> omega)]; assumption) | (rw [hx2.cell (by simp only <;> omega)]; assumption) | (rw [hx1.cell (by simp <;> omega)]; assumption)))
      (first
        | (go_at_call 61; ((with_reducible refine (diff_c m num B A d c ys xs _ (by exact RY0.out) (by exact RX0.out) hm hn dl (by exact HDS.out)).mono ?_); rintro e v1 ⟨B1, d1, rfl, hcd1, _, ho1, hx1⟩); have RX1 := Lib.hid (Row.ext (w := w11.drew) RX0.out hx1); have RY1 := Lib.hid (Row.ext (w := w11.drew) RY0.out hx1); have RD1 := Lib.hid (Row.ext (w := w11.drew) RD0.out hx1); have y1 : w.heap.size + 1 < v1.heap.size := Nat.lt_of_lt_of_le (by exact z11) hx1.size; have XE1 := Lib.hid hx1; have D1 := Lib.hid ho1.row)
        | (go_at_call 30; ((with_reducible refine (same3_refl _ _ _ _ dl _ (by exact RD1.out) (by exact D1.out) hdl).mono ?_); rintro e v2 ⟨rfl, hs2⟩; have hx2 := hs2.ext); have RX2 := Lib.hid (Row.ext (w := v1) RX1.out hx2); have RY2 := Lib.hid (Row.ext (w := v1) RY1.out hx2); have RD2 := Lib.hid (Row.ext (w := v1) RD1.out hx2); have y2 : w.heap.size + 1 < v2.heap.size := Nat.lt_of_lt_of_le (by exact y1) hx2.size; have XE2 := Lib.hid (Ext.trans XE1.out hx2))
        | (go_at_call 20; ((with_reducible refine (contains_b _ _ dl id _ (by exact RD2.out) hdl _ (by exact HDH.out)).mono ?_); rintro e v3 ⟨rfl, he3⟩; have hx3 : Ext (v2) v3 := he3 ▸ Ext.refl _); have RX3 := Lib.hid (Row.ext (w := v2) RX2.out hx3); have RY3 := Lib.hid (Row.ext (w := v2) RY2.out hx3); have RD3 := Lib.hid (Row.ext (w := v2) RD2.out hx3); have y3 : w.heap.size + 1 < v3.heap.size := Nat.lt_of_lt_of_le (by exact y2) hx3.size; have XE3 := Lib.hid (Ext.trans XE2.out hx3))
        | (go_at_call 20; ((with_reducible refine (contains_b _ _ xs id _ (by exact RX3.out) hn _ (by exact HI.out)).mono ?_); rintro e v4 ⟨rfl, he4⟩; have hx4 : Ext (v3) v4 := he4 ▸ Ext.refl _); have RX4 := Lib.hid (Row.ext (w := v3) RX3.out hx4); have RY4 := Lib.hid (Row.ext (w := v3) RY3.out hx4); have RD4 := Lib.hid (Row.ext (w := v3) RD3.out hx4); have y4 : w.heap.size + 1 < v4.heap.size := Nat.lt_of_lt_of_le (by exact y3) hx4.size; have XE4 := Lib.hid (Ext.trans XE3.out hx4))
        | (go_at_call 20; ((with_reducible refine (contains_b _ _ ys id _ (by exact RY4.out) hm _ (by exact HO.out)).mono ?_); rintro e v5 ⟨rfl, he5⟩; have hx5 : Ext (v4) v5 := he5 ▸ Ext.refl _); have RX5 := Lib.hid (Row.ext (w := v4) RX4.out hx5); have RY5 := Lib.hid (Row.ext (w := v4) RY4.out hx5); have RD5 := Lib.hid (Row.ext (w := v4) RD4.out hx5); have y5 : w.heap.size + 1 < v5.heap.size := Nat.lt_of_lt_of_le (by exact y4) hx5.size; have XE5 := Lib.hid (Ext.trans XE4.out hx5))
        | (go_at_call 61; ((with_reducible refine (diff_c num num A A c c xs xs _ (by exact RX5.out) (by exact RX5.out) hn hn [] (by exact HDD.out)).mono ?_); rintro e v6 ⟨B6, d6, rfl, hcd6, _, ho6, hx6⟩); have RX6 := Lib.hid (Row.ext (w := v5) RX5.out hx6); have RY6 := Lib.hid (Row.ext (w := v5) RY5.out hx6); have RD6 := Lib.hid (Row.ext (w := v5) RD5.out hx6); have y6 : w.heap.size + 1 < v6.heap.size := Nat.lt_of_lt_of_le (by exact y5) hx6.size; have XE6 := Lib.hid (Ext.trans XE5.out hx6)))
    go_wp2
    go_ret
    exact ⟨rfl, X11.out.trans XE6.out⟩
  · have he' : (er == 0) = false := by simpa using he
    have TU := Lib.hid (T3.out.ext X4.out)
    have HXU := Lib.hid (HX3.out.ext X4.out); have HYU := Lib.hid (HY3.out.ext X4.out)
    have XU := Lib.hid (X3.out.trans X4.out)
    clear hN he HX3 HY3 HC3 HR3 X3 X4 T3
    go_wp2_with fail
    refine (valid_yes num A c xs _ HXU.out hn HVV.out).mono ?_
    rintro e w9 ⟨rfl, hx9⟩
    have T9 := Lib.hid (TU.out.ext hx9)
    have HX9 := Lib.hid (HXU.out.ext hx9); have HY9 := Lib.hid (HYU.out.ext hx9)
    have X9 := Lib.hid (XU.out.trans hx9)
    clear hx9 q0 q1 q2 q3 HXU HYU XU TU
    obtain ⟨q0, q1, q2, q3, z9⟩ := T9.out; have zz9 := Nat.lt_of_succ_lt z9
    go_wp2_with fail
    refine (valid_yes m B d ys _ HY9.out hm HWV.out).mono ?_
    rintro e w10 ⟨rfl, hx10⟩
    have T10 := Lib.hid (T9.out.ext hx10)
    have HX10 := Lib.hid (HX9.out.ext hx10); have HY10 := Lib.hid (HY9.out.ext hx10)
    have X10 := Lib.hid (X9.out.trans hx10)
    clear hx10 q0 q1 q2 q3 HX9 HY9 X9 T9
    obtain ⟨q0, q1, q2, q3, z10⟩ := T10.out; have zz10 := Nat.lt_of_succ_lt z10
    go_wp2_with fail
    refine (diff_c num m A B c d xs ys _ HX10.out HY10.out hn hm dl HDL.out).mono ?_
    rintro e w11 ⟨A11, c11, rfl, hc11, hm11, ho11, hx11⟩
    have T11 := Lib.hid (T10.out.ext hx11)
    have RX0 := Lib.hid (HX10.out.ext hx11.drew); have RY0 := Lib.hid (HY10.out.ext hx11.drew); have RD0 := Lib.hid (ho11.row.ext (Ext.drew (Ext.refl w11)))
    have X11 := Lib.hid (X10.out.trans hx11.drew)
    clear hx11 q0 q1 q2 q3 z10 HX10 HY10 X10 T10 ho11
    obtain ⟨q0, q1, q2, q3, z11⟩ := T11.out; have zz11 := Nat.lt_of_succ_lt z11
    go_wp2
    go_region_held3 (fun w' => w'.cell? ⟨w.heap.size, 0, none⟩ = some (.int .i64 num) ∧ w'.cell? ⟨w.heap.size, 1, none⟩ = some (.slice A xs.length c) ∧ w'.cell? ⟨w.heap.size + 1, 0, none⟩ = some (.int .i64 m) ∧ w'.cell? ⟨w.heap.size + 1, 1, none⟩ = some (.slice B ys.length d))
      (first | (go_keep; done) | (go_split_ands; (repeat' apply And.intro) <;> first | (go_keep; done) | (rw [hx6.cell (by simp only <;> omega)]; assumption) | (rw [hx5.cell (by simp only <;> omega)]; assumption) | (rw [hx4.cell (by simp only <;> omega)]; assumption) | (rw [hx3.cell (by simp only <;> omega)]; assumption) | (rw [hx2.cell (by simp only <;> omega)]; assumption) | (rw [hx1.cell (by simp <;> omega)]; assumption)))
      (first
        | (go_at_call 61; ((with_reducible refine (diff_c m num B A d c ys xs _ (by exact RY0.out) (by exact RX0.out) hm hn dl (by exact HDS.out)).mono ?_); rintro e v1 ⟨B1, d1, rfl, hcd1, _, ho1, hx1⟩); have RX1 := Lib.hid (Row.ext (w := w11.drew) RX0.out hx1); have RY1 := Lib.hid (Row.ext (w := w11.drew) RY0.out hx1); have RD1 := Lib.hid (Row.ext (w := w11.drew) RD0.out hx1); have y1 : w.heap.size + 1 < v1.heap.size := Nat.lt_of_lt_of_le (by exact z11) hx1.size; have XE1 := Lib.hid hx1; have D1 := Lib.hid ho1.row)
        | (go_at_call 30; ((with_reducible refine (same3_refl _ _ _ _ dl _ (by exact RD1.out) (by exact D1.out) hdl).mono ?_); rintro e v2 ⟨rfl, hs2⟩; have hx2 := hs2.ext); have RX2 := Lib.hid (Row.ext (w := v1) RX1.out hx2); have RY2 := Lib.hid (Row.ext (w := v1) RY1.out hx2); have RD2 := Lib.hid (Row.ext (w := v1) RD1.out hx2); have y2 : w.heap.size + 1 < v2.heap.size := Nat.lt_of_lt_of_le (by exact y1) hx2.size; have XE2 := Lib.hid (Ext.trans XE1.out hx2))
        | (go_at_call 20; ((with_reducible refine (contains_b _ _ dl id _ (by exact RD2.out) hdl _ (by exact HDH.out)).mono ?_); rintro e v3 ⟨rfl, he3⟩; have hx3 : Ext (v2) v3 := he3 ▸ Ext.refl _); have RX3 := Lib.hid (Row.ext (w := v2) RX2.out hx3); have RY3 := Lib.hid (Row.ext (w := v2) RY2.out hx3); have RD3 := Lib.hid (Row.ext (w := v2) RD2.out hx3); have y3 : w.heap.size + 1 < v3.heap.size := Nat.lt_of_lt_of_le (by exact y2) hx3.size; have XE3 := Lib.hid (Ext.trans XE2.out hx3))
        | (go_at_call 20; ((with_reducible refine (contains_b _ _ xs id _ (by exact RX3.out) hn _ (by exact HI.out)).mono ?_); rintro e v4 ⟨rfl, he4⟩; have hx4 : Ext (v3) v4 := he4 ▸ Ext.refl _); have RX4 := Lib.hid (Row.ext (w := v3) RX3.out hx4); have RY4 := Lib.hid (Row.ext (w := v3) RY3.out hx4); have RD4 := Lib.hid (Row.ext (w := v3) RD3.out hx4); have y4 : w.heap.size + 1 < v4.heap.size := Nat.lt_of_lt_of_le (by exact y3) hx4.size; have XE4 := Lib.hid (Ext.trans XE3.out hx4))
        | (go_at_call 20; ((with_reducible refine (contains_b _ _ ys id _ (by exact RY4.out) hm _ (by exact HO.out)).mono ?_); rintro e v5 ⟨rfl, he5⟩; have hx5 : Ext (v4) v5 := he5 ▸ Ext.refl _); have RX5 := Lib.hid (Row.ext (w := v4) RX4.out hx5); have RY5 := Lib.hid (Row.ext (w := v4) RY4.out hx5); have RD5 := Lib.hid (Row.ext (w := v4) RD4.out hx5); have y5 : w.heap.size + 1 < v5.heap.size := Nat.lt_of_lt_of_le (by exact y4) hx5.size; have XE5 := Lib.hid (Ext.trans XE4.out hx5))
        | (go_at_call 61; ((with_reducible refine (diff_c num num A A c c xs xs _ (by exact RX5.out) (by exact RX5.out) hn hn [] (by exact HDD.out)).mono ?_); rintro e v6 ⟨B6, d6, rfl, hcd6, _, ho6, hx6⟩); have RX6 := Lib.hid (Row.ext (w := v5) RX5.out hx6); have RY6 := Lib.hid (Row.ext (w := v5) RY5.out hx6); have RD6 := Lib.hid (Row.ext (w := v5) RD5.out hx6); have y6 : w.heap.size + 1 < v6.heap.size := Nat.lt_of_lt_of_le (by exact y5) hx6.size; have XE6 := Lib.hid (Ext.trans XE5.out hx6)))
    go_wp2
    go_ret
    exact ⟨rfl, X11.out.trans XE6.out⟩

set_option maxRecDepth 100000 in
set_option maxHeartbeats 4000000 in
theorem walktf (num m : Int) (A B Ac : Option Addr) (c d cc : Nat) (xs ys cut : List Int) (id : Int) (w : World) (hx : Row w A (ints xs)) (hy : Row w B (ints ys)) (hc : Row w Ac (ints cut)) (hn : xs.length ≤ 9223372036854775807) (hm : ys.length ≤ 9223372036854775807) (hnc : cut.length ≤ 9223372036854775807)
    (hs : smallB [(A, xs.length, c), (B, ys.length, d), (Ac, cut.length, cc)] = true) (hv : validB num xs = true) (hw : validB m ys = true) (hi0 : hasB xs id = true) (ho0 : hasB ys id = false) :
    Calls Try.prog 13 #[.agg #[.int .i64 num, .slice A xs.length c], .agg #[.int .i64 m, .slice B ys.length d], .slice Ac cut.length cc, .int .i64 id] w fun e w' => e = .returned (.bool true) ∧ Ext w w' := by
  have HI := Lib.hid hi0; have HO := Lib.hid ho0; have HSM := Lib.hid hs; have HVV := Lib.hid hv; have HWV := Lib.hid hw
  obtain ⟨dl, hdl0⟩ : ∃ dl, diffF num xs m ys = dl := ⟨_, rfl⟩
  have HDL := Lib.hid hdl0
  have HDS : Hid (diffF m ys num xs = dl) := Lib.hid (by rw [← hdl0]; exact (diff_symm hv hw).symm)
  have HDH : Hid (hasB dl id = (true != false)) := Lib.hid (by rw [← hdl0, diff_has hv hw, hi0, ho0])
  have HDD := Lib.hid (diff_self hv)
  have hdl : dl.length ≤ 9223372036854775807 := by
    have := among_len xs ys false; have := among_len ys xs false; have := (validB_len hv).2; have := (validB_len hw).2
    rw [← hdl0, diffF_yes hv hw, len_mergeL]; omega
  clear hi0 ho0 hs hv hw hdl0
  have H0 := Lib.hid (twoBox_ext w num m (.slice A xs.length c) (.slice B ys.length d))
  have HX := Lib.hid (hx.ext H0.out); have HY := Lib.hid (hy.ext H0.out); have HC := Lib.hid (hc.ext H0.out)
  have T0 := Lib.hid (two_new w num m (.slice A xs.length c) (.slice B ys.length d))
  clear hx hy hc
  go_enter Try.func13, Try.ntmps13
  go_wp2_with fail
  refine (awake3_any _).mono ?_
  rintro e w1 ⟨rfl, hx1⟩
  have T1 := Lib.hid (Two.ext T0.out (by exact hx1))
  have HX1 := Lib.hid (Row.ext HX.out (by exact hx1)); have HY1 := Lib.hid (Row.ext HY.out (by exact hx1)); have HC1 := Lib.hid (Row.ext HC.out (by exact hx1))
  have X1 := Lib.hid (Ext.trans H0.out (by exact hx1))
  obtain ⟨q0, q1, q2, q3, z1⟩ := T1.out; have zz1 := Nat.lt_of_succ_lt z1
  clear hx1 HX HY HC H0 T0
  go_wp2_with fail
  have X2 := Lib.hid (Ext.new w1 (.cells #[.slice A xs.length c, .slice B ys.length d, .slice Ac cut.length cc] 22))
  refine (small3_any (some ⟨w1.heap.size, 0, none⟩) 3 [(A, xs.length, c), (B, ys.length, d), (Ac, cut.length, cc)] _ (row3s (by simp) (by simp) (by simp)) (by simp)).mono ?_
  rw [HSM.out]
  rintro e w2 ⟨rfl, rfl⟩
  go_wp2_with fail
  refine (next_any num A Ac c cc xs cut _ (HX1.out.ext X2.out) (HC1.out.ext X2.out) hn hnc).mono ?_
  rintro e w3 ⟨A3, c3, rfl, hc3, hm3, ho3, hx3⟩
  have X23 := Lib.hid (X2.out.trans hx3)
  have T3 := Lib.hid (T1.out.ext X23.out)
  have HX3 := Lib.hid (HX1.out.ext X23.out); have HY3 := Lib.hid (HY1.out.ext X23.out); have HC3 := Lib.hid (HC1.out.ext X23.out)
  have X3 := Lib.hid (X1.out.trans X23.out)
  have HR3 := Lib.hid ho3.row
  clear hx3 q0 q1 q2 q3 z1 HX1 HY1 HC1 X2 X1 X23 ho3 T1
  obtain ⟨q0, q1, q2, q3, z3⟩ := T3.out; have zz3 := Nat.lt_of_succ_lt z3
  generalize hN : nextF num xs cut = r at *
  obtain ⟨n', zs, er⟩ := r
  simp only at *
  have X4 := Lib.hid (Ext.new w3 (.cells #[.int .i64 n', .slice A3 zs.length c3] 36))
  by_cases he : er = 0
  · subst he
    have HD := Lib.hid (diff_next hN)
    have hzl : zs.length ≤ 16 := (validB_len (nextF_inv hN).2.2.2.2.2.2.2.2).2
    clear hN
    go_wp2_with fail
    refine (diff_c num n' A A3 c c3 xs zs _ (HX3.out.ext X4.out) (HR3.out.ext X4.out) hn (by omega) cut HD.out.1).mono ?_
    rintro e w5 ⟨A5, c5, rfl, hc5, hm5, ho5, hx5⟩
    have b0 : w5.cell? ⟨w3.heap.size, 0, none⟩ = some (.int .i64 n') := by simpa using hx5.cell_new 0
    have b1 : w5.cell? ⟨w3.heap.size, 1, none⟩ = some (.slice A3 zs.length c3) := by simpa using hx5.cell_new 1
    have y5 : w3.heap.size < w5.heap.size := by have := hx5.size; simp at this; omega
    have X45 := Lib.hid (X4.out.trans hx5)
    have T5 := Lib.hid (T3.out.ext X45.out)
    have HX5 := Lib.hid (HX3.out.ext X45.out); have HY5 := Lib.hid (HY3.out.ext X45.out); have HC5 := Lib.hid (HC3.out.ext X45.out); have HR5 := Lib.hid (HR3.out.ext X45.out)
    have X5 := Lib.hid (X3.out.trans X45.out)
    have HO5 := Lib.hid ho5.row
    clear hx5 q0 q1 q2 q3 z3 HX3 HY3 HC3 HR3 X3 X4 X45 ho5 T3
    obtain ⟨q0, q1, q2, q3, z5⟩ := T5.out; have zz5 := Nat.lt_of_succ_lt z5
    go_wp2_with fail
    refine (same3_refl _ _ _ _ cut _ HO5.out HC5.out hnc).mono ?_
    rintro e w6 ⟨rfl, hs6⟩
    have b0' : w6.cell? ⟨w3.heap.size, 0, none⟩ = some (.int .i64 n') := by rw [hs6.ext.cell y5]; exact b0
    have b1' : w6.cell? ⟨w3.heap.size, 1, none⟩ = some (.slice A3 zs.length c3) := by rw [hs6.ext.cell y5]; exact b1
    have T6 := Lib.hid (T5.out.ext hs6.ext)
    have HX6 := Lib.hid (HX5.out.ext hs6.ext); have HY6 := Lib.hid (HY5.out.ext hs6.ext); have HC6 := Lib.hid (HC5.out.ext hs6.ext); have HR6 := Lib.hid (HR5.out.ext hs6.ext)
    have X6 := Lib.hid (X5.out.trans hs6.ext)
    clear hs6 q0 q1 q2 q3 z5 HX5 HY5 HC5 HR5 X5 HO5 T5 b0 b1 y5
    obtain ⟨q0, q1, q2, q3, z6⟩ := T6.out; have zz6 := Nat.lt_of_succ_lt z6
    go_wp2_with fail
    refine (diff_c n' num A3 A c3 c zs xs _ HR6.out HX6.out (by omega) hn cut HD.out.2).mono ?_
    rintro e w7 ⟨A7, c7, rfl, hc7, hm7, ho7, hx7⟩
    have T7 := Lib.hid (T6.out.ext hx7)
    have HX7 := Lib.hid (HX6.out.ext hx7); have HY7 := Lib.hid (HY6.out.ext hx7); have HC7 := Lib.hid (HC6.out.ext hx7)
    have X7 := Lib.hid (X6.out.trans hx7)
    have HO7 := Lib.hid ho7.row
    clear hx7 q0 q1 q2 q3 z6 HX6 HY6 HC6 HR6 X6 T6 b0' b1' ho7
    go_wp2_with fail
    refine (same3_refl _ _ _ _ cut _ HO7.out HC7.out hnc).mono ?_
    rintro e w8 ⟨rfl, hs8⟩
    have TU := Lib.hid (T7.out.ext hs8.ext)
    have HXU := Lib.hid (HX7.out.ext hs8.ext); have HYU := Lib.hid (HY7.out.ext hs8.ext)
    have XU := Lib.hid (X7.out.trans hs8.ext)
    clear hs8 HX7 HY7 HC7 X7 HO7 T7 HD
    obtain ⟨q0, q1, q2, q3, z8⟩ := TU.out; have zz8 := Nat.lt_of_succ_lt z8
    go_wp2_with fail
    refine (valid_yes num A c xs _ HXU.out hn HVV.out).mono ?_
    rintro e w9 ⟨rfl, hx9⟩
    have T9 := Lib.hid (TU.out.ext hx9)
    have HX9 := Lib.hid (HXU.out.ext hx9); have HY9 := Lib.hid (HYU.out.ext hx9)
    have X9 := Lib.hid (XU.out.trans hx9)
    clear hx9 q0 q1 q2 q3 HXU HYU XU TU
    obtain ⟨q0, q1, q2, q3, z9⟩ := T9.out; have zz9 := Nat.lt_of_succ_lt z9
    go_wp2_with fail
    refine (valid_yes m B d ys _ HY9.out hm HWV.out).mono ?_
    rintro e w10 ⟨rfl, hx10⟩
    have T10 := Lib.hid (T9.out.ext hx10)
    have HX10 := Lib.hid (HX9.out.ext hx10); have HY10 := Lib.hid (HY9.out.ext hx10)
    have X10 := Lib.hid (X9.out.trans hx10)
    clear hx10 q0 q1 q2 q3 HX9 HY9 X9 T9
    obtain ⟨q0, q1, q2, q3, z10⟩ := T10.out; have zz10 := Nat.lt_of_succ_lt z10
    go_wp2_with fail
    refine (diff_c num m A B c d xs ys _ HX10.out HY10.out hn hm dl HDL.out).mono ?_
    rintro e w11 ⟨A11, c11, rfl, hc11, hm11, ho11, hx11⟩
    have T11 := Lib.hid (T10.out.ext hx11)
    have RX0 := Lib.hid (HX10.out.ext hx11.drew); have RY0 := Lib.hid (HY10.out.ext hx11.drew); have RD0 := Lib.hid (ho11.row.ext (Ext.drew (Ext.refl w11)))
    have X11 := Lib.hid (X10.out.trans hx11.drew)
    clear hx11 q0 q1 q2 q3 z10 HX10 HY10 X10 T10 ho11
    obtain ⟨q0, q1, q2, q3, z11⟩ := T11.out; have zz11 := Nat.lt_of_succ_lt z11
    go_wp2
    go_region_held3 (fun w' => w'.cell? ⟨w.heap.size, 0, none⟩ = some (.int .i64 num) ∧ w'.cell? ⟨w.heap.size, 1, none⟩ = some (.slice A xs.length c) ∧ w'.cell? ⟨w.heap.size + 1, 0, none⟩ = some (.int .i64 m) ∧ w'.cell? ⟨w.heap.size + 1, 1, none⟩ = some (.slice B ys.length d))
      (first | (go_keep; done) | (go_split_ands; (repeat' apply And.intro) <;> first | (go_keep; done) | (rw [hx6.cell (by simp only <;> omega)]; assumption) | (rw [hx5.cell (by simp only <;> omega)]; assumption) | (rw [hx4.cell (by simp only <;> omega)]; assumption) | (rw [hx3.cell (by simp only <;> omega)]; assumption) | (rw [hx2.cell (by simp only <;> omega)]; assumption) | (rw [hx1.cell (by simp <;> omega)]; assumption)))
      (first
        | (go_at_call 61; ((with_reducible refine (diff_c m num B A d c ys xs _ (by exact RY0.out) (by exact RX0.out) hm hn dl (by exact HDS.out)).mono ?_); rintro e v1 ⟨B1, d1, rfl, hcd1, _, ho1, hx1⟩); have RX1 := Lib.hid (Row.ext (w := w11.drew) RX0.out hx1); have RY1 := Lib.hid (Row.ext (w := w11.drew) RY0.out hx1); have RD1 := Lib.hid (Row.ext (w := w11.drew) RD0.out hx1); have y1 : w.heap.size + 1 < v1.heap.size := Nat.lt_of_lt_of_le (by exact z11) hx1.size; have XE1 := Lib.hid hx1; have D1 := Lib.hid ho1.row)
        | (go_at_call 30; ((with_reducible refine (same3_refl _ _ _ _ dl _ (by exact RD1.out) (by exact D1.out) hdl).mono ?_); rintro e v2 ⟨rfl, hs2⟩; have hx2 := hs2.ext); have RX2 := Lib.hid (Row.ext (w := v1) RX1.out hx2); have RY2 := Lib.hid (Row.ext (w := v1) RY1.out hx2); have RD2 := Lib.hid (Row.ext (w := v1) RD1.out hx2); have y2 : w.heap.size + 1 < v2.heap.size := Nat.lt_of_lt_of_le (by exact y1) hx2.size; have XE2 := Lib.hid (Ext.trans XE1.out hx2))
        | (go_at_call 20; ((with_reducible refine (contains_b _ _ dl id _ (by exact RD2.out) hdl _ (by exact HDH.out)).mono ?_); rintro e v3 ⟨rfl, he3⟩; have hx3 : Ext (v2) v3 := he3 ▸ Ext.refl _); have RX3 := Lib.hid (Row.ext (w := v2) RX2.out hx3); have RY3 := Lib.hid (Row.ext (w := v2) RY2.out hx3); have RD3 := Lib.hid (Row.ext (w := v2) RD2.out hx3); have y3 : w.heap.size + 1 < v3.heap.size := Nat.lt_of_lt_of_le (by exact y2) hx3.size; have XE3 := Lib.hid (Ext.trans XE2.out hx3))
        | (go_at_call 20; ((with_reducible refine (contains_b _ _ xs id _ (by exact RX3.out) hn _ (by exact HI.out)).mono ?_); rintro e v4 ⟨rfl, he4⟩; have hx4 : Ext (v3) v4 := he4 ▸ Ext.refl _); have RX4 := Lib.hid (Row.ext (w := v3) RX3.out hx4); have RY4 := Lib.hid (Row.ext (w := v3) RY3.out hx4); have RD4 := Lib.hid (Row.ext (w := v3) RD3.out hx4); have y4 : w.heap.size + 1 < v4.heap.size := Nat.lt_of_lt_of_le (by exact y3) hx4.size; have XE4 := Lib.hid (Ext.trans XE3.out hx4))
        | (go_at_call 20; ((with_reducible refine (contains_b _ _ ys id _ (by exact RY4.out) hm _ (by exact HO.out)).mono ?_); rintro e v5 ⟨rfl, he5⟩; have hx5 : Ext (v4) v5 := he5 ▸ Ext.refl _); have RX5 := Lib.hid (Row.ext (w := v4) RX4.out hx5); have RY5 := Lib.hid (Row.ext (w := v4) RY4.out hx5); have RD5 := Lib.hid (Row.ext (w := v4) RD4.out hx5); have y5 : w.heap.size + 1 < v5.heap.size := Nat.lt_of_lt_of_le (by exact y4) hx5.size; have XE5 := Lib.hid (Ext.trans XE4.out hx5))
        | (go_at_call 61; ((with_reducible refine (diff_c num num A A c c xs xs _ (by exact RX5.out) (by exact RX5.out) hn hn [] (by exact HDD.out)).mono ?_); rintro e v6 ⟨B6, d6, rfl, hcd6, _, ho6, hx6⟩); have RX6 := Lib.hid (Row.ext (w := v5) RX5.out hx6); have RY6 := Lib.hid (Row.ext (w := v5) RY5.out hx6); have RD6 := Lib.hid (Row.ext (w := v5) RD5.out hx6); have y6 : w.heap.size + 1 < v6.heap.size := Nat.lt_of_lt_of_le (by exact y5) hx6.size; have XE6 := Lib.hid (Ext.trans XE5.out hx6)))
    go_wp2
    go_ret
    exact ⟨rfl, X11.out.trans XE6.out⟩
  · have he' : (er == 0) = false := by simpa using he
    have TU := Lib.hid (T3.out.ext X4.out)
    have HXU := Lib.hid (HX3.out.ext X4.out); have HYU := Lib.hid (HY3.out.ext X4.out)
    have XU := Lib.hid (X3.out.trans X4.out)
    clear hN he HX3 HY3 HC3 HR3 X3 X4 T3
    go_wp2_with fail
    refine (valid_yes num A c xs _ HXU.out hn HVV.out).mono ?_
    rintro e w9 ⟨rfl, hx9⟩
    have T9 := Lib.hid (TU.out.ext hx9)
    have HX9 := Lib.hid (HXU.out.ext hx9); have HY9 := Lib.hid (HYU.out.ext hx9)
    have X9 := Lib.hid (XU.out.trans hx9)
    clear hx9 q0 q1 q2 q3 HXU HYU XU TU
    obtain ⟨q0, q1, q2, q3, z9⟩ := T9.out; have zz9 := Nat.lt_of_succ_lt z9
    go_wp2_with fail
    refine (valid_yes m B d ys _ HY9.out hm HWV.out).mono ?_
    rintro e w10 ⟨rfl, hx10⟩
    have T10 := Lib.hid (T9.out.ext hx10)
    have HX10 := Lib.hid (HX9.out.ext hx10); have HY10 := Lib.hid (HY9.out.ext hx10)
    have X10 := Lib.hid (X9.out.trans hx10)
    clear hx10 q0 q1 q2 q3 HX9 HY9 X9 T9
    obtain ⟨q0, q1, q2, q3, z10⟩ := T10.out; have zz10 := Nat.lt_of_succ_lt z10
    go_wp2_with fail
    refine (diff_c num m A B c d xs ys _ HX10.out HY10.out hn hm dl HDL.out).mono ?_
    rintro e w11 ⟨A11, c11, rfl, hc11, hm11, ho11, hx11⟩
    have T11 := Lib.hid (T10.out.ext hx11)
    have RX0 := Lib.hid (HX10.out.ext hx11.drew); have RY0 := Lib.hid (HY10.out.ext hx11.drew); have RD0 := Lib.hid (ho11.row.ext (Ext.drew (Ext.refl w11)))
    have X11 := Lib.hid (X10.out.trans hx11.drew)
    clear hx11 q0 q1 q2 q3 z10 HX10 HY10 X10 T10 ho11
    obtain ⟨q0, q1, q2, q3, z11⟩ := T11.out; have zz11 := Nat.lt_of_succ_lt z11
    go_wp2
    go_region_held3 (fun w' => w'.cell? ⟨w.heap.size, 0, none⟩ = some (.int .i64 num) ∧ w'.cell? ⟨w.heap.size, 1, none⟩ = some (.slice A xs.length c) ∧ w'.cell? ⟨w.heap.size + 1, 0, none⟩ = some (.int .i64 m) ∧ w'.cell? ⟨w.heap.size + 1, 1, none⟩ = some (.slice B ys.length d))
      (first | (go_keep; done) | (go_split_ands; (repeat' apply And.intro) <;> first | (go_keep; done) | (rw [hx6.cell (by simp only <;> omega)]; assumption) | (rw [hx5.cell (by simp only <;> omega)]; assumption) | (rw [hx4.cell (by simp only <;> omega)]; assumption) | (rw [hx3.cell (by simp only <;> omega)]; assumption) | (rw [hx2.cell (by simp only <;> omega)]; assumption) | (rw [hx1.cell (by simp <;> omega)]; assumption)))
      (first
        | (go_at_call 61; ((with_reducible refine (diff_c m num B A d c ys xs _ (by exact RY0.out) (by exact RX0.out) hm hn dl (by exact HDS.out)).mono ?_); rintro e v1 ⟨B1, d1, rfl, hcd1, _, ho1, hx1⟩); have RX1 := Lib.hid (Row.ext (w := w11.drew) RX0.out hx1); have RY1 := Lib.hid (Row.ext (w := w11.drew) RY0.out hx1); have RD1 := Lib.hid (Row.ext (w := w11.drew) RD0.out hx1); have y1 : w.heap.size + 1 < v1.heap.size := Nat.lt_of_lt_of_le (by exact z11) hx1.size; have XE1 := Lib.hid hx1; have D1 := Lib.hid ho1.row)
        | (go_at_call 30; ((with_reducible refine (same3_refl _ _ _ _ dl _ (by exact RD1.out) (by exact D1.out) hdl).mono ?_); rintro e v2 ⟨rfl, hs2⟩; have hx2 := hs2.ext); have RX2 := Lib.hid (Row.ext (w := v1) RX1.out hx2); have RY2 := Lib.hid (Row.ext (w := v1) RY1.out hx2); have RD2 := Lib.hid (Row.ext (w := v1) RD1.out hx2); have y2 : w.heap.size + 1 < v2.heap.size := Nat.lt_of_lt_of_le (by exact y1) hx2.size; have XE2 := Lib.hid (Ext.trans XE1.out hx2))
        | (go_at_call 20; ((with_reducible refine (contains_b _ _ dl id _ (by exact RD2.out) hdl _ (by exact HDH.out)).mono ?_); rintro e v3 ⟨rfl, he3⟩; have hx3 : Ext (v2) v3 := he3 ▸ Ext.refl _); have RX3 := Lib.hid (Row.ext (w := v2) RX2.out hx3); have RY3 := Lib.hid (Row.ext (w := v2) RY2.out hx3); have RD3 := Lib.hid (Row.ext (w := v2) RD2.out hx3); have y3 : w.heap.size + 1 < v3.heap.size := Nat.lt_of_lt_of_le (by exact y2) hx3.size; have XE3 := Lib.hid (Ext.trans XE2.out hx3))
        | (go_at_call 20; ((with_reducible refine (contains_b _ _ xs id _ (by exact RX3.out) hn _ (by exact HI.out)).mono ?_); rintro e v4 ⟨rfl, he4⟩; have hx4 : Ext (v3) v4 := he4 ▸ Ext.refl _); have RX4 := Lib.hid (Row.ext (w := v3) RX3.out hx4); have RY4 := Lib.hid (Row.ext (w := v3) RY3.out hx4); have RD4 := Lib.hid (Row.ext (w := v3) RD3.out hx4); have y4 : w.heap.size + 1 < v4.heap.size := Nat.lt_of_lt_of_le (by exact y3) hx4.size; have XE4 := Lib.hid (Ext.trans XE3.out hx4))
        | (go_at_call 20; ((with_reducible refine (contains_b _ _ ys id _ (by exact RY4.out) hm _ (by exact HO.out)).mono ?_); rintro e v5 ⟨rfl, he5⟩; have hx5 : Ext (v4) v5 := he5 ▸ Ext.refl _); have RX5 := Lib.hid (Row.ext (w := v4) RX4.out hx5); have RY5 := Lib.hid (Row.ext (w := v4) RY4.out hx5); have RD5 := Lib.hid (Row.ext (w := v4) RD4.out hx5); have y5 : w.heap.size + 1 < v5.heap.size := Nat.lt_of_lt_of_le (by exact y4) hx5.size; have XE5 := Lib.hid (Ext.trans XE4.out hx5))
        | (go_at_call 61; ((with_reducible refine (diff_c num num A A c c xs xs _ (by exact RX5.out) (by exact RX5.out) hn hn [] (by exact HDD.out)).mono ?_); rintro e v6 ⟨B6, d6, rfl, hcd6, _, ho6, hx6⟩); have RX6 := Lib.hid (Row.ext (w := v5) RX5.out hx6); have RY6 := Lib.hid (Row.ext (w := v5) RY5.out hx6); have RD6 := Lib.hid (Row.ext (w := v5) RD5.out hx6); have y6 : w.heap.size + 1 < v6.heap.size := Nat.lt_of_lt_of_le (by exact y5) hx6.size; have XE6 := Lib.hid (Ext.trans XE5.out hx6)))
    go_wp2
    go_ret
    exact ⟨rfl, X11.out.trans XE6.out⟩

set_option maxRecDepth 100000 in
set_option maxHeartbeats 4000000 in
theorem walktt (num m : Int) (A B Ac : Option Addr) (c d cc : Nat) (xs ys cut : List Int) (id : Int) (w : World) (hx : Row w A (ints xs)) (hy : Row w B (ints ys)) (hc : Row w Ac (ints cut)) (hn : xs.length ≤ 9223372036854775807) (hm : ys.length ≤ 9223372036854775807) (hnc : cut.length ≤ 9223372036854775807)
    (hs : smallB [(A, xs.length, c), (B, ys.length, d), (Ac, cut.length, cc)] = true) (hv : validB num xs = true) (hw : validB m ys = true) (hi0 : hasB xs id = true) (ho0 : hasB ys id = true) :
    Calls Try.prog 13 #[.agg #[.int .i64 num, .slice A xs.length c], .agg #[.int .i64 m, .slice B ys.length d], .slice Ac cut.length cc, .int .i64 id] w fun e w' => e = .returned (.bool true) ∧ Ext w w' := by
  have HI := Lib.hid hi0; have HO := Lib.hid ho0; have HSM := Lib.hid hs; have HVV := Lib.hid hv; have HWV := Lib.hid hw
  obtain ⟨dl, hdl0⟩ : ∃ dl, diffF num xs m ys = dl := ⟨_, rfl⟩
  have HDL := Lib.hid hdl0
  have HDS : Hid (diffF m ys num xs = dl) := Lib.hid (by rw [← hdl0]; exact (diff_symm hv hw).symm)
  have HDH : Hid (hasB dl id = (true != true)) := Lib.hid (by rw [← hdl0, diff_has hv hw, hi0, ho0])
  have HDD := Lib.hid (diff_self hv)
  have hdl : dl.length ≤ 9223372036854775807 := by
    have := among_len xs ys false; have := among_len ys xs false; have := (validB_len hv).2; have := (validB_len hw).2
    rw [← hdl0, diffF_yes hv hw, len_mergeL]; omega
  clear hi0 ho0 hs hv hw hdl0
  have H0 := Lib.hid (twoBox_ext w num m (.slice A xs.length c) (.slice B ys.length d))
  have HX := Lib.hid (hx.ext H0.out); have HY := Lib.hid (hy.ext H0.out); have HC := Lib.hid (hc.ext H0.out)
  have T0 := Lib.hid (two_new w num m (.slice A xs.length c) (.slice B ys.length d))
  clear hx hy hc
  go_enter Try.func13, Try.ntmps13
  go_wp2_with fail
  refine (awake3_any _).mono ?_
  rintro e w1 ⟨rfl, hx1⟩
  have T1 := Lib.hid (Two.ext T0.out (by exact hx1))
  have HX1 := Lib.hid (Row.ext HX.out (by exact hx1)); have HY1 := Lib.hid (Row.ext HY.out (by exact hx1)); have HC1 := Lib.hid (Row.ext HC.out (by exact hx1))
  have X1 := Lib.hid (Ext.trans H0.out (by exact hx1))
  obtain ⟨q0, q1, q2, q3, z1⟩ := T1.out; have zz1 := Nat.lt_of_succ_lt z1
  clear hx1 HX HY HC H0 T0
  go_wp2_with fail
  have X2 := Lib.hid (Ext.new w1 (.cells #[.slice A xs.length c, .slice B ys.length d, .slice Ac cut.length cc] 22))
  refine (small3_any (some ⟨w1.heap.size, 0, none⟩) 3 [(A, xs.length, c), (B, ys.length, d), (Ac, cut.length, cc)] _ (row3s (by simp) (by simp) (by simp)) (by simp)).mono ?_
  rw [HSM.out]
  rintro e w2 ⟨rfl, rfl⟩
  go_wp2_with fail
  refine (next_any num A Ac c cc xs cut _ (HX1.out.ext X2.out) (HC1.out.ext X2.out) hn hnc).mono ?_
  rintro e w3 ⟨A3, c3, rfl, hc3, hm3, ho3, hx3⟩
  have X23 := Lib.hid (X2.out.trans hx3)
  have T3 := Lib.hid (T1.out.ext X23.out)
  have HX3 := Lib.hid (HX1.out.ext X23.out); have HY3 := Lib.hid (HY1.out.ext X23.out); have HC3 := Lib.hid (HC1.out.ext X23.out)
  have X3 := Lib.hid (X1.out.trans X23.out)
  have HR3 := Lib.hid ho3.row
  clear hx3 q0 q1 q2 q3 z1 HX1 HY1 HC1 X2 X1 X23 ho3 T1
  obtain ⟨q0, q1, q2, q3, z3⟩ := T3.out; have zz3 := Nat.lt_of_succ_lt z3
  generalize hN : nextF num xs cut = r at *
  obtain ⟨n', zs, er⟩ := r
  simp only at *
  have X4 := Lib.hid (Ext.new w3 (.cells #[.int .i64 n', .slice A3 zs.length c3] 36))
  by_cases he : er = 0
  · subst he
    have HD := Lib.hid (diff_next hN)
    have hzl : zs.length ≤ 16 := (validB_len (nextF_inv hN).2.2.2.2.2.2.2.2).2
    clear hN
    go_wp2_with fail
    refine (diff_c num n' A A3 c c3 xs zs _ (HX3.out.ext X4.out) (HR3.out.ext X4.out) hn (by omega) cut HD.out.1).mono ?_
    rintro e w5 ⟨A5, c5, rfl, hc5, hm5, ho5, hx5⟩
    have b0 : w5.cell? ⟨w3.heap.size, 0, none⟩ = some (.int .i64 n') := by simpa using hx5.cell_new 0
    have b1 : w5.cell? ⟨w3.heap.size, 1, none⟩ = some (.slice A3 zs.length c3) := by simpa using hx5.cell_new 1
    have y5 : w3.heap.size < w5.heap.size := by have := hx5.size; simp at this; omega
    have X45 := Lib.hid (X4.out.trans hx5)
    have T5 := Lib.hid (T3.out.ext X45.out)
    have HX5 := Lib.hid (HX3.out.ext X45.out); have HY5 := Lib.hid (HY3.out.ext X45.out); have HC5 := Lib.hid (HC3.out.ext X45.out); have HR5 := Lib.hid (HR3.out.ext X45.out)
    have X5 := Lib.hid (X3.out.trans X45.out)
    have HO5 := Lib.hid ho5.row
    clear hx5 q0 q1 q2 q3 z3 HX3 HY3 HC3 HR3 X3 X4 X45 ho5 T3
    obtain ⟨q0, q1, q2, q3, z5⟩ := T5.out; have zz5 := Nat.lt_of_succ_lt z5
    go_wp2_with fail
    refine (same3_refl _ _ _ _ cut _ HO5.out HC5.out hnc).mono ?_
    rintro e w6 ⟨rfl, hs6⟩
    have b0' : w6.cell? ⟨w3.heap.size, 0, none⟩ = some (.int .i64 n') := by rw [hs6.ext.cell y5]; exact b0
    have b1' : w6.cell? ⟨w3.heap.size, 1, none⟩ = some (.slice A3 zs.length c3) := by rw [hs6.ext.cell y5]; exact b1
    have T6 := Lib.hid (T5.out.ext hs6.ext)
    have HX6 := Lib.hid (HX5.out.ext hs6.ext); have HY6 := Lib.hid (HY5.out.ext hs6.ext); have HC6 := Lib.hid (HC5.out.ext hs6.ext); have HR6 := Lib.hid (HR5.out.ext hs6.ext)
    have X6 := Lib.hid (X5.out.trans hs6.ext)
    clear hs6 q0 q1 q2 q3 z5 HX5 HY5 HC5 HR5 X5 HO5 T5 b0 b1 y5
    obtain ⟨q0, q1, q2, q3, z6⟩ := T6.out; have zz6 := Nat.lt_of_succ_lt z6
    go_wp2_with fail
    refine (diff_c n' num A3 A c3 c zs xs _ HR6.out HX6.out (by omega) hn cut HD.out.2).mono ?_
    rintro e w7 ⟨A7, c7, rfl, hc7, hm7, ho7, hx7⟩
    have T7 := Lib.hid (T6.out.ext hx7)
    have HX7 := Lib.hid (HX6.out.ext hx7); have HY7 := Lib.hid (HY6.out.ext hx7); have HC7 := Lib.hid (HC6.out.ext hx7)
    have X7 := Lib.hid (X6.out.trans hx7)
    have HO7 := Lib.hid ho7.row
    clear hx7 q0 q1 q2 q3 z6 HX6 HY6 HC6 HR6 X6 T6 b0' b1' ho7
    go_wp2_with fail
    refine (same3_refl _ _ _ _ cut _ HO7.out HC7.out hnc).mono ?_
    rintro e w8 ⟨rfl, hs8⟩
    have TU := Lib.hid (T7.out.ext hs8.ext)
    have HXU := Lib.hid (HX7.out.ext hs8.ext); have HYU := Lib.hid (HY7.out.ext hs8.ext)
    have XU := Lib.hid (X7.out.trans hs8.ext)
    clear hs8 HX7 HY7 HC7 X7 HO7 T7 HD
    obtain ⟨q0, q1, q2, q3, z8⟩ := TU.out; have zz8 := Nat.lt_of_succ_lt z8
    go_wp2_with fail
    refine (valid_yes num A c xs _ HXU.out hn HVV.out).mono ?_
    rintro e w9 ⟨rfl, hx9⟩
    have T9 := Lib.hid (TU.out.ext hx9)
    have HX9 := Lib.hid (HXU.out.ext hx9); have HY9 := Lib.hid (HYU.out.ext hx9)
    have X9 := Lib.hid (XU.out.trans hx9)
    clear hx9 q0 q1 q2 q3 HXU HYU XU TU
    obtain ⟨q0, q1, q2, q3, z9⟩ := T9.out; have zz9 := Nat.lt_of_succ_lt z9
    go_wp2_with fail
    refine (valid_yes m B d ys _ HY9.out hm HWV.out).mono ?_
    rintro e w10 ⟨rfl, hx10⟩
    have T10 := Lib.hid (T9.out.ext hx10)
    have HX10 := Lib.hid (HX9.out.ext hx10); have HY10 := Lib.hid (HY9.out.ext hx10)
    have X10 := Lib.hid (X9.out.trans hx10)
    clear hx10 q0 q1 q2 q3 HX9 HY9 X9 T9
    obtain ⟨q0, q1, q2, q3, z10⟩ := T10.out; have zz10 := Nat.lt_of_succ_lt z10
    go_wp2_with fail
    refine (diff_c num m A B c d xs ys _ HX10.out HY10.out hn hm dl HDL.out).mono ?_
    rintro e w11 ⟨A11, c11, rfl, hc11, hm11, ho11, hx11⟩
    have T11 := Lib.hid (T10.out.ext hx11)
    have RX0 := Lib.hid (HX10.out.ext hx11.drew); have RY0 := Lib.hid (HY10.out.ext hx11.drew); have RD0 := Lib.hid (ho11.row.ext (Ext.drew (Ext.refl w11)))
    have X11 := Lib.hid (X10.out.trans hx11.drew)
    clear hx11 q0 q1 q2 q3 z10 HX10 HY10 X10 T10 ho11
    obtain ⟨q0, q1, q2, q3, z11⟩ := T11.out; have zz11 := Nat.lt_of_succ_lt z11
    go_wp2
    go_region_held3 (fun w' => w'.cell? ⟨w.heap.size, 0, none⟩ = some (.int .i64 num) ∧ w'.cell? ⟨w.heap.size, 1, none⟩ = some (.slice A xs.length c) ∧ w'.cell? ⟨w.heap.size + 1, 0, none⟩ = some (.int .i64 m) ∧ w'.cell? ⟨w.heap.size + 1, 1, none⟩ = some (.slice B ys.length d))
      (first | (go_keep; done) | (go_split_ands; (repeat' apply And.intro) <;> first | (go_keep; done) | (rw [hx6.cell (by simp only <;> omega)]; assumption) | (rw [hx5.cell (by simp only <;> omega)]; assumption) | (rw [hx4.cell (by simp only <;> omega)]; assumption) | (rw [hx3.cell (by simp only <;> omega)]; assumption) | (rw [hx2.cell (by simp only <;> omega)]; assumption) | (rw [hx1.cell (by simp <;> omega)]; assumption)))
      (first
        | (go_at_call 61; ((with_reducible refine (diff_c m num B A d c ys xs _ (by exact RY0.out) (by exact RX0.out) hm hn dl (by exact HDS.out)).mono ?_); rintro e v1 ⟨B1, d1, rfl, hcd1, _, ho1, hx1⟩); have RX1 := Lib.hid (Row.ext (w := w11.drew) RX0.out hx1); have RY1 := Lib.hid (Row.ext (w := w11.drew) RY0.out hx1); have RD1 := Lib.hid (Row.ext (w := w11.drew) RD0.out hx1); have y1 : w.heap.size + 1 < v1.heap.size := Nat.lt_of_lt_of_le (by exact z11) hx1.size; have XE1 := Lib.hid hx1; have D1 := Lib.hid ho1.row)
        | (go_at_call 30; ((with_reducible refine (same3_refl _ _ _ _ dl _ (by exact RD1.out) (by exact D1.out) hdl).mono ?_); rintro e v2 ⟨rfl, hs2⟩; have hx2 := hs2.ext); have RX2 := Lib.hid (Row.ext (w := v1) RX1.out hx2); have RY2 := Lib.hid (Row.ext (w := v1) RY1.out hx2); have RD2 := Lib.hid (Row.ext (w := v1) RD1.out hx2); have y2 : w.heap.size + 1 < v2.heap.size := Nat.lt_of_lt_of_le (by exact y1) hx2.size; have XE2 := Lib.hid (Ext.trans XE1.out hx2))
        | (go_at_call 20; ((with_reducible refine (contains_b _ _ dl id _ (by exact RD2.out) hdl _ (by exact HDH.out)).mono ?_); rintro e v3 ⟨rfl, he3⟩; have hx3 : Ext (v2) v3 := he3 ▸ Ext.refl _); have RX3 := Lib.hid (Row.ext (w := v2) RX2.out hx3); have RY3 := Lib.hid (Row.ext (w := v2) RY2.out hx3); have RD3 := Lib.hid (Row.ext (w := v2) RD2.out hx3); have y3 : w.heap.size + 1 < v3.heap.size := Nat.lt_of_lt_of_le (by exact y2) hx3.size; have XE3 := Lib.hid (Ext.trans XE2.out hx3))
        | (go_at_call 20; ((with_reducible refine (contains_b _ _ xs id _ (by exact RX3.out) hn _ (by exact HI.out)).mono ?_); rintro e v4 ⟨rfl, he4⟩; have hx4 : Ext (v3) v4 := he4 ▸ Ext.refl _); have RX4 := Lib.hid (Row.ext (w := v3) RX3.out hx4); have RY4 := Lib.hid (Row.ext (w := v3) RY3.out hx4); have RD4 := Lib.hid (Row.ext (w := v3) RD3.out hx4); have y4 : w.heap.size + 1 < v4.heap.size := Nat.lt_of_lt_of_le (by exact y3) hx4.size; have XE4 := Lib.hid (Ext.trans XE3.out hx4))
        | (go_at_call 20; ((with_reducible refine (contains_b _ _ ys id _ (by exact RY4.out) hm _ (by exact HO.out)).mono ?_); rintro e v5 ⟨rfl, he5⟩; have hx5 : Ext (v4) v5 := he5 ▸ Ext.refl _); have RX5 := Lib.hid (Row.ext (w := v4) RX4.out hx5); have RY5 := Lib.hid (Row.ext (w := v4) RY4.out hx5); have RD5 := Lib.hid (Row.ext (w := v4) RD4.out hx5); have y5 : w.heap.size + 1 < v5.heap.size := Nat.lt_of_lt_of_le (by exact y4) hx5.size; have XE5 := Lib.hid (Ext.trans XE4.out hx5))
        | (go_at_call 61; ((with_reducible refine (diff_c num num A A c c xs xs _ (by exact RX5.out) (by exact RX5.out) hn hn [] (by exact HDD.out)).mono ?_); rintro e v6 ⟨B6, d6, rfl, hcd6, _, ho6, hx6⟩); have RX6 := Lib.hid (Row.ext (w := v5) RX5.out hx6); have RY6 := Lib.hid (Row.ext (w := v5) RY5.out hx6); have RD6 := Lib.hid (Row.ext (w := v5) RD5.out hx6); have y6 : w.heap.size + 1 < v6.heap.size := Nat.lt_of_lt_of_le (by exact y5) hx6.size; have XE6 := Lib.hid (Ext.trans XE5.out hx6)))
    go_wp2
    go_ret
    exact ⟨rfl, X11.out.trans XE6.out⟩
  · have he' : (er == 0) = false := by simpa using he
    have TU := Lib.hid (T3.out.ext X4.out)
    have HXU := Lib.hid (HX3.out.ext X4.out); have HYU := Lib.hid (HY3.out.ext X4.out)
    have XU := Lib.hid (X3.out.trans X4.out)
    clear hN he HX3 HY3 HC3 HR3 X3 X4 T3
    go_wp2_with fail
    refine (valid_yes num A c xs _ HXU.out hn HVV.out).mono ?_
    rintro e w9 ⟨rfl, hx9⟩
    have T9 := Lib.hid (TU.out.ext hx9)
    have HX9 := Lib.hid (HXU.out.ext hx9); have HY9 := Lib.hid (HYU.out.ext hx9)
    have X9 := Lib.hid (XU.out.trans hx9)
    clear hx9 q0 q1 q2 q3 HXU HYU XU TU
    obtain ⟨q0, q1, q2, q3, z9⟩ := T9.out; have zz9 := Nat.lt_of_succ_lt z9
    go_wp2_with fail
    refine (valid_yes m B d ys _ HY9.out hm HWV.out).mono ?_
    rintro e w10 ⟨rfl, hx10⟩
    have T10 := Lib.hid (T9.out.ext hx10)
    have HX10 := Lib.hid (HX9.out.ext hx10); have HY10 := Lib.hid (HY9.out.ext hx10)
    have X10 := Lib.hid (X9.out.trans hx10)
    clear hx10 q0 q1 q2 q3 HX9 HY9 X9 T9
    obtain ⟨q0, q1, q2, q3, z10⟩ := T10.out; have zz10 := Nat.lt_of_succ_lt z10
    go_wp2_with fail
    refine (diff_c num m A B c d xs ys _ HX10.out HY10.out hn hm dl HDL.out).mono ?_
    rintro e w11 ⟨A11, c11, rfl, hc11, hm11, ho11, hx11⟩
    have T11 := Lib.hid (T10.out.ext hx11)
    have RX0 := Lib.hid (HX10.out.ext hx11.drew); have RY0 := Lib.hid (HY10.out.ext hx11.drew); have RD0 := Lib.hid (ho11.row.ext (Ext.drew (Ext.refl w11)))
    have X11 := Lib.hid (X10.out.trans hx11.drew)
    clear hx11 q0 q1 q2 q3 z10 HX10 HY10 X10 T10 ho11
    obtain ⟨q0, q1, q2, q3, z11⟩ := T11.out; have zz11 := Nat.lt_of_succ_lt z11
    go_wp2
    go_region_held3 (fun w' => w'.cell? ⟨w.heap.size, 0, none⟩ = some (.int .i64 num) ∧ w'.cell? ⟨w.heap.size, 1, none⟩ = some (.slice A xs.length c) ∧ w'.cell? ⟨w.heap.size + 1, 0, none⟩ = some (.int .i64 m) ∧ w'.cell? ⟨w.heap.size + 1, 1, none⟩ = some (.slice B ys.length d))
      (first | (go_keep; done) | (go_split_ands; (repeat' apply And.intro) <;> first | (go_keep; done) | (rw [hx6.cell (by simp only <;> omega)]; assumption) | (rw [hx5.cell (by simp only <;> omega)]; assumption) | (rw [hx4.cell (by simp only <;> omega)]; assumption) | (rw [hx3.cell (by simp only <;> omega)]; assumption) | (rw [hx2.cell (by simp only <;> omega)]; assumption) | (rw [hx1.cell (by simp <;> omega)]; assumption)))
      (first
        | (go_at_call 61; ((with_reducible refine (diff_c m num B A d c ys xs _ (by exact RY0.out) (by exact RX0.out) hm hn dl (by exact HDS.out)).mono ?_); rintro e v1 ⟨B1, d1, rfl, hcd1, _, ho1, hx1⟩); have RX1 := Lib.hid (Row.ext (w := w11.drew) RX0.out hx1); have RY1 := Lib.hid (Row.ext (w := w11.drew) RY0.out hx1); have RD1 := Lib.hid (Row.ext (w := w11.drew) RD0.out hx1); have y1 : w.heap.size + 1 < v1.heap.size := Nat.lt_of_lt_of_le (by exact z11) hx1.size; have XE1 := Lib.hid hx1; have D1 := Lib.hid ho1.row)
        | (go_at_call 30; ((with_reducible refine (same3_refl _ _ _ _ dl _ (by exact RD1.out) (by exact D1.out) hdl).mono ?_); rintro e v2 ⟨rfl, hs2⟩; have hx2 := hs2.ext); have RX2 := Lib.hid (Row.ext (w := v1) RX1.out hx2); have RY2 := Lib.hid (Row.ext (w := v1) RY1.out hx2); have RD2 := Lib.hid (Row.ext (w := v1) RD1.out hx2); have y2 : w.heap.size + 1 < v2.heap.size := Nat.lt_of_lt_of_le (by exact y1) hx2.size; have XE2 := Lib.hid (Ext.trans XE1.out hx2))
        | (go_at_call 20; ((with_reducible refine (contains_b _ _ dl id _ (by exact RD2.out) hdl _ (by exact HDH.out)).mono ?_); rintro e v3 ⟨rfl, he3⟩; have hx3 : Ext (v2) v3 := he3 ▸ Ext.refl _); have RX3 := Lib.hid (Row.ext (w := v2) RX2.out hx3); have RY3 := Lib.hid (Row.ext (w := v2) RY2.out hx3); have RD3 := Lib.hid (Row.ext (w := v2) RD2.out hx3); have y3 : w.heap.size + 1 < v3.heap.size := Nat.lt_of_lt_of_le (by exact y2) hx3.size; have XE3 := Lib.hid (Ext.trans XE2.out hx3))
        | (go_at_call 20; ((with_reducible refine (contains_b _ _ xs id _ (by exact RX3.out) hn _ (by exact HI.out)).mono ?_); rintro e v4 ⟨rfl, he4⟩; have hx4 : Ext (v3) v4 := he4 ▸ Ext.refl _); have RX4 := Lib.hid (Row.ext (w := v3) RX3.out hx4); have RY4 := Lib.hid (Row.ext (w := v3) RY3.out hx4); have RD4 := Lib.hid (Row.ext (w := v3) RD3.out hx4); have y4 : w.heap.size + 1 < v4.heap.size := Nat.lt_of_lt_of_le (by exact y3) hx4.size; have XE4 := Lib.hid (Ext.trans XE3.out hx4))
        | (go_at_call 20; ((with_reducible refine (contains_b _ _ ys id _ (by exact RY4.out) hm _ (by exact HO.out)).mono ?_); rintro e v5 ⟨rfl, he5⟩; have hx5 : Ext (v4) v5 := he5 ▸ Ext.refl _); have RX5 := Lib.hid (Row.ext (w := v4) RX4.out hx5); have RY5 := Lib.hid (Row.ext (w := v4) RY4.out hx5); have RD5 := Lib.hid (Row.ext (w := v4) RD4.out hx5); have y5 : w.heap.size + 1 < v5.heap.size := Nat.lt_of_lt_of_le (by exact y4) hx5.size; have XE5 := Lib.hid (Ext.trans XE4.out hx5))
        | (go_at_call 61; ((with_reducible refine (diff_c num num A A c c xs xs _ (by exact RX5.out) (by exact RX5.out) hn hn [] (by exact HDD.out)).mono ?_); rintro e v6 ⟨B6, d6, rfl, hcd6, _, ho6, hx6⟩); have RX6 := Lib.hid (Row.ext (w := v5) RX5.out hx6); have RY6 := Lib.hid (Row.ext (w := v5) RY5.out hx6); have RD6 := Lib.hid (Row.ext (w := v5) RD5.out hx6); have y6 : w.heap.size + 1 < v6.heap.size := Nat.lt_of_lt_of_le (by exact y5) hx6.size; have XE6 := Lib.hid (Ext.trans XE5.out hx6)))
    go_wp2
    go_ret
    exact ⟨rfl, X11.out.trans XE6.out⟩

set_option maxRecDepth 100000 in
set_option maxHeartbeats 4000000 in
theorem walkn (num m : Int) (A B Ac : Option Addr) (c d cc : Nat) (xs ys cut : List Int) (id : Int) (w : World) (hx : Row w A (ints xs)) (hy : Row w B (ints ys)) (hc : Row w Ac (ints cut)) (hn : xs.length ≤ 9223372036854775807) (hm : ys.length ≤ 9223372036854775807) (hnc : cut.length ≤ 9223372036854775807)
    (hs : smallB [(A, xs.length, c), (B, ys.length, d), (Ac, cut.length, cc)] = true) (hv : validB num xs = false) :
    Calls Try.prog 13 #[.agg #[.int .i64 num, .slice A xs.length c], .agg #[.int .i64 m, .slice B ys.length d], .slice Ac cut.length cc, .int .i64 id] w fun e w' => e = .returned (.bool true) ∧ Ext w w' := by
  have HSM := Lib.hid hs; have HVV := Lib.hid hv
  have HDL : Hid (diffF num xs m ys = []) := Lib.hid (diffF_no1 hv)
  clear hs hv
  have H0 := Lib.hid (twoBox_ext w num m (.slice A xs.length c) (.slice B ys.length d))
  have HX := Lib.hid (hx.ext H0.out); have HY := Lib.hid (hy.ext H0.out); have HC := Lib.hid (hc.ext H0.out)
  have T0 := Lib.hid (two_new w num m (.slice A xs.length c) (.slice B ys.length d))
  clear hx hy hc
  go_enter Try.func13, Try.ntmps13
  go_wp2_with fail
  refine (awake3_any _).mono ?_
  rintro e w1 ⟨rfl, hx1⟩
  have T1 := Lib.hid (Two.ext T0.out (by exact hx1))
  have HX1 := Lib.hid (Row.ext HX.out (by exact hx1)); have HY1 := Lib.hid (Row.ext HY.out (by exact hx1)); have HC1 := Lib.hid (Row.ext HC.out (by exact hx1))
  have X1 := Lib.hid (Ext.trans H0.out (by exact hx1))
  obtain ⟨q0, q1, q2, q3, z1⟩ := T1.out; have zz1 := Nat.lt_of_succ_lt z1
  clear hx1 HX HY HC H0 T0
  go_wp2_with fail
  have X2 := Lib.hid (Ext.new w1 (.cells #[.slice A xs.length c, .slice B ys.length d, .slice Ac cut.length cc] 22))
  refine (small3_any (some ⟨w1.heap.size, 0, none⟩) 3 [(A, xs.length, c), (B, ys.length, d), (Ac, cut.length, cc)] _ (row3s (by simp) (by simp) (by simp)) (by simp)).mono ?_
  rw [HSM.out]
  rintro e w2 ⟨rfl, rfl⟩
  go_wp2_with fail
  refine (next_any num A Ac c cc xs cut _ (HX1.out.ext X2.out) (HC1.out.ext X2.out) hn hnc).mono ?_
  rintro e w3 ⟨A3, c3, rfl, hc3, hm3, ho3, hx3⟩
  have X23 := Lib.hid (X2.out.trans hx3)
  have T3 := Lib.hid (T1.out.ext X23.out)
  have HX3 := Lib.hid (HX1.out.ext X23.out); have HY3 := Lib.hid (HY1.out.ext X23.out); have HC3 := Lib.hid (HC1.out.ext X23.out)
  have X3 := Lib.hid (X1.out.trans X23.out)
  have HR3 := Lib.hid ho3.row
  clear hx3 q0 q1 q2 q3 z1 HX1 HY1 HC1 X2 X1 X23 ho3 T1
  obtain ⟨q0, q1, q2, q3, z3⟩ := T3.out; have zz3 := Nat.lt_of_succ_lt z3
  generalize hN : nextF num xs cut = r at *
  obtain ⟨n', zs, er⟩ := r
  simp only at *
  have X4 := Lib.hid (Ext.new w3 (.cells #[.int .i64 n', .slice A3 zs.length c3] 36))
  by_cases he : er = 0
  · subst he
    have HD := Lib.hid (diff_next hN)
    have hzl : zs.length ≤ 16 := (validB_len (nextF_inv hN).2.2.2.2.2.2.2.2).2
    clear hN
    go_wp2_with fail
    refine (diff_c num n' A A3 c c3 xs zs _ (HX3.out.ext X4.out) (HR3.out.ext X4.out) hn (by omega) cut HD.out.1).mono ?_
    rintro e w5 ⟨A5, c5, rfl, hc5, hm5, ho5, hx5⟩
    have b0 : w5.cell? ⟨w3.heap.size, 0, none⟩ = some (.int .i64 n') := by simpa using hx5.cell_new 0
    have b1 : w5.cell? ⟨w3.heap.size, 1, none⟩ = some (.slice A3 zs.length c3) := by simpa using hx5.cell_new 1
    have y5 : w3.heap.size < w5.heap.size := by have := hx5.size; simp at this; omega
    have X45 := Lib.hid (X4.out.trans hx5)
    have T5 := Lib.hid (T3.out.ext X45.out)
    have HX5 := Lib.hid (HX3.out.ext X45.out); have HY5 := Lib.hid (HY3.out.ext X45.out); have HC5 := Lib.hid (HC3.out.ext X45.out); have HR5 := Lib.hid (HR3.out.ext X45.out)
    have X5 := Lib.hid (X3.out.trans X45.out)
    have HO5 := Lib.hid ho5.row
    clear hx5 q0 q1 q2 q3 z3 HX3 HY3 HC3 HR3 X3 X4 X45 ho5 T3
    obtain ⟨q0, q1, q2, q3, z5⟩ := T5.out; have zz5 := Nat.lt_of_succ_lt z5
    go_wp2_with fail
    refine (same3_refl _ _ _ _ cut _ HO5.out HC5.out hnc).mono ?_
    rintro e w6 ⟨rfl, hs6⟩
    have b0' : w6.cell? ⟨w3.heap.size, 0, none⟩ = some (.int .i64 n') := by rw [hs6.ext.cell y5]; exact b0
    have b1' : w6.cell? ⟨w3.heap.size, 1, none⟩ = some (.slice A3 zs.length c3) := by rw [hs6.ext.cell y5]; exact b1
    have T6 := Lib.hid (T5.out.ext hs6.ext)
    have HX6 := Lib.hid (HX5.out.ext hs6.ext); have HY6 := Lib.hid (HY5.out.ext hs6.ext); have HC6 := Lib.hid (HC5.out.ext hs6.ext); have HR6 := Lib.hid (HR5.out.ext hs6.ext)
    have X6 := Lib.hid (X5.out.trans hs6.ext)
    clear hs6 q0 q1 q2 q3 z5 HX5 HY5 HC5 HR5 X5 HO5 T5 b0 b1 y5
    obtain ⟨q0, q1, q2, q3, z6⟩ := T6.out; have zz6 := Nat.lt_of_succ_lt z6
    go_wp2_with fail
    refine (diff_c n' num A3 A c3 c zs xs _ HR6.out HX6.out (by omega) hn cut HD.out.2).mono ?_
    rintro e w7 ⟨A7, c7, rfl, hc7, hm7, ho7, hx7⟩
    have T7 := Lib.hid (T6.out.ext hx7)
    have HX7 := Lib.hid (HX6.out.ext hx7); have HY7 := Lib.hid (HY6.out.ext hx7); have HC7 := Lib.hid (HC6.out.ext hx7)
    have X7 := Lib.hid (X6.out.trans hx7)
    have HO7 := Lib.hid ho7.row
    clear hx7 q0 q1 q2 q3 z6 HX6 HY6 HC6 HR6 X6 T6 b0' b1' ho7
    go_wp2_with fail
    refine (same3_refl _ _ _ _ cut _ HO7.out HC7.out hnc).mono ?_
    rintro e w8 ⟨rfl, hs8⟩
    have TU := Lib.hid (T7.out.ext hs8.ext)
    have HXU := Lib.hid (HX7.out.ext hs8.ext); have HYU := Lib.hid (HY7.out.ext hs8.ext)
    have XU := Lib.hid (X7.out.trans hs8.ext)
    clear hs8 HX7 HY7 HC7 X7 HO7 T7 HD
    obtain ⟨q0, q1, q2, q3, z8⟩ := TU.out; have zz8 := Nat.lt_of_succ_lt z8
    go_wp2_with fail
    refine (valid_no num A c xs _ HXU.out hn HVV.out).mono ?_
    rintro e w9 ⟨rfl, hx9⟩
    have T9 := Lib.hid (TU.out.ext hx9)
    have HX9 := Lib.hid (HXU.out.ext hx9); have HY9 := Lib.hid (HYU.out.ext hx9)
    have X9 := Lib.hid (XU.out.trans hx9)
    clear hx9 q0 q1 q2 q3 HXU HYU XU TU
    obtain ⟨q0, q1, q2, q3, z9⟩ := T9.out; have zz9 := Nat.lt_of_succ_lt z9
    go_wp2_with fail
    refine (diff_c num m A B c d xs ys _ HX9.out HY9.out hn hm [] HDL.out).mono ?_
    rintro e w11 ⟨A11, c11, rfl, hc11, hm11, ho11, hx11⟩
    go_wp2
    go_ret
    exact ⟨rfl, X9.out.trans hx11⟩
  · have he' : (er == 0) = false := by simpa using he
    have TU := Lib.hid (T3.out.ext X4.out)
    have HXU := Lib.hid (HX3.out.ext X4.out); have HYU := Lib.hid (HY3.out.ext X4.out)
    have XU := Lib.hid (X3.out.trans X4.out)
    clear hN he HX3 HY3 HC3 HR3 X3 X4 T3
    go_wp2_with fail
    refine (valid_no num A c xs _ HXU.out hn HVV.out).mono ?_
    rintro e w9 ⟨rfl, hx9⟩
    have T9 := Lib.hid (TU.out.ext hx9)
    have HX9 := Lib.hid (HXU.out.ext hx9); have HY9 := Lib.hid (HYU.out.ext hx9)
    have X9 := Lib.hid (XU.out.trans hx9)
    clear hx9 q0 q1 q2 q3 HXU HYU XU TU
    obtain ⟨q0, q1, q2, q3, z9⟩ := T9.out; have zz9 := Nat.lt_of_succ_lt z9
    go_wp2_with fail
    refine (diff_c num m A B c d xs ys _ HX9.out HY9.out hn hm [] HDL.out).mono ?_
    rintro e w11 ⟨A11, c11, rfl, hc11, hm11, ho11, hx11⟩
    go_wp2
    go_ret
    exact ⟨rfl, X9.out.trans hx11⟩

set_option maxRecDepth 100000 in
set_option maxHeartbeats 4000000 in
theorem walkm (num m : Int) (A B Ac : Option Addr) (c d cc : Nat) (xs ys cut : List Int) (id : Int) (w : World) (hx : Row w A (ints xs)) (hy : Row w B (ints ys)) (hc : Row w Ac (ints cut)) (hn : xs.length ≤ 9223372036854775807) (hm : ys.length ≤ 9223372036854775807) (hnc : cut.length ≤ 9223372036854775807)
    (hs : smallB [(A, xs.length, c), (B, ys.length, d), (Ac, cut.length, cc)] = true) (hv : validB num xs = true) (hw : validB m ys = false) :
    Calls Try.prog 13 #[.agg #[.int .i64 num, .slice A xs.length c], .agg #[.int .i64 m, .slice B ys.length d], .slice Ac cut.length cc, .int .i64 id] w fun e w' => e = .returned (.bool true) ∧ Ext w w' := by
  have HSM := Lib.hid hs; have HVV := Lib.hid hv; have HWV := Lib.hid hw
  have HDL : Hid (diffF num xs m ys = []) := Lib.hid (diffF_no2 hw)
  clear hs hv hw
  have H0 := Lib.hid (twoBox_ext w num m (.slice A xs.length c) (.slice B ys.length d))
  have HX := Lib.hid (hx.ext H0.out); have HY := Lib.hid (hy.ext H0.out); have HC := Lib.hid (hc.ext H0.out)
  have T0 := Lib.hid (two_new w num m (.slice A xs.length c) (.slice B ys.length d))
  clear hx hy hc
  go_enter Try.func13, Try.ntmps13
  go_wp2_with fail
  refine (awake3_any _).mono ?_
  rintro e w1 ⟨rfl, hx1⟩
  have T1 := Lib.hid (Two.ext T0.out (by exact hx1))
  have HX1 := Lib.hid (Row.ext HX.out (by exact hx1)); have HY1 := Lib.hid (Row.ext HY.out (by exact hx1)); have HC1 := Lib.hid (Row.ext HC.out (by exact hx1))
  have X1 := Lib.hid (Ext.trans H0.out (by exact hx1))
  obtain ⟨q0, q1, q2, q3, z1⟩ := T1.out; have zz1 := Nat.lt_of_succ_lt z1
  clear hx1 HX HY HC H0 T0
  go_wp2_with fail
  have X2 := Lib.hid (Ext.new w1 (.cells #[.slice A xs.length c, .slice B ys.length d, .slice Ac cut.length cc] 22))
  refine (small3_any (some ⟨w1.heap.size, 0, none⟩) 3 [(A, xs.length, c), (B, ys.length, d), (Ac, cut.length, cc)] _ (row3s (by simp) (by simp) (by simp)) (by simp)).mono ?_
  rw [HSM.out]
  rintro e w2 ⟨rfl, rfl⟩
  go_wp2_with fail
  refine (next_any num A Ac c cc xs cut _ (HX1.out.ext X2.out) (HC1.out.ext X2.out) hn hnc).mono ?_
  rintro e w3 ⟨A3, c3, rfl, hc3, hm3, ho3, hx3⟩
  have X23 := Lib.hid (X2.out.trans hx3)
  have T3 := Lib.hid (T1.out.ext X23.out)
  have HX3 := Lib.hid (HX1.out.ext X23.out); have HY3 := Lib.hid (HY1.out.ext X23.out); have HC3 := Lib.hid (HC1.out.ext X23.out)
  have X3 := Lib.hid (X1.out.trans X23.out)
  have HR3 := Lib.hid ho3.row
  clear hx3 q0 q1 q2 q3 z1 HX1 HY1 HC1 X2 X1 X23 ho3 T1
  obtain ⟨q0, q1, q2, q3, z3⟩ := T3.out; have zz3 := Nat.lt_of_succ_lt z3
  generalize hN : nextF num xs cut = r at *
  obtain ⟨n', zs, er⟩ := r
  simp only at *
  have X4 := Lib.hid (Ext.new w3 (.cells #[.int .i64 n', .slice A3 zs.length c3] 36))
  by_cases he : er = 0
  · subst he
    have HD := Lib.hid (diff_next hN)
    have hzl : zs.length ≤ 16 := (validB_len (nextF_inv hN).2.2.2.2.2.2.2.2).2
    clear hN
    go_wp2_with fail
    refine (diff_c num n' A A3 c c3 xs zs _ (HX3.out.ext X4.out) (HR3.out.ext X4.out) hn (by omega) cut HD.out.1).mono ?_
    rintro e w5 ⟨A5, c5, rfl, hc5, hm5, ho5, hx5⟩
    have b0 : w5.cell? ⟨w3.heap.size, 0, none⟩ = some (.int .i64 n') := by simpa using hx5.cell_new 0
    have b1 : w5.cell? ⟨w3.heap.size, 1, none⟩ = some (.slice A3 zs.length c3) := by simpa using hx5.cell_new 1
    have y5 : w3.heap.size < w5.heap.size := by have := hx5.size; simp at this; omega
    have X45 := Lib.hid (X4.out.trans hx5)
    have T5 := Lib.hid (T3.out.ext X45.out)
    have HX5 := Lib.hid (HX3.out.ext X45.out); have HY5 := Lib.hid (HY3.out.ext X45.out); have HC5 := Lib.hid (HC3.out.ext X45.out); have HR5 := Lib.hid (HR3.out.ext X45.out)
    have X5 := Lib.hid (X3.out.trans X45.out)
    have HO5 := Lib.hid ho5.row
    clear hx5 q0 q1 q2 q3 z3 HX3 HY3 HC3 HR3 X3 X4 X45 ho5 T3
    obtain ⟨q0, q1, q2, q3, z5⟩ := T5.out; have zz5 := Nat.lt_of_succ_lt z5
    go_wp2_with fail
    refine (same3_refl _ _ _ _ cut _ HO5.out HC5.out hnc).mono ?_
    rintro e w6 ⟨rfl, hs6⟩
    have b0' : w6.cell? ⟨w3.heap.size, 0, none⟩ = some (.int .i64 n') := by rw [hs6.ext.cell y5]; exact b0
    have b1' : w6.cell? ⟨w3.heap.size, 1, none⟩ = some (.slice A3 zs.length c3) := by rw [hs6.ext.cell y5]; exact b1
    have T6 := Lib.hid (T5.out.ext hs6.ext)
    have HX6 := Lib.hid (HX5.out.ext hs6.ext); have HY6 := Lib.hid (HY5.out.ext hs6.ext); have HC6 := Lib.hid (HC5.out.ext hs6.ext); have HR6 := Lib.hid (HR5.out.ext hs6.ext)
    have X6 := Lib.hid (X5.out.trans hs6.ext)
    clear hs6 q0 q1 q2 q3 z5 HX5 HY5 HC5 HR5 X5 HO5 T5 b0 b1 y5
    obtain ⟨q0, q1, q2, q3, z6⟩ := T6.out; have zz6 := Nat.lt_of_succ_lt z6
    go_wp2_with fail
    refine (diff_c n' num A3 A c3 c zs xs _ HR6.out HX6.out (by omega) hn cut HD.out.2).mono ?_
    rintro e w7 ⟨A7, c7, rfl, hc7, hm7, ho7, hx7⟩
    have T7 := Lib.hid (T6.out.ext hx7)
    have HX7 := Lib.hid (HX6.out.ext hx7); have HY7 := Lib.hid (HY6.out.ext hx7); have HC7 := Lib.hid (HC6.out.ext hx7)
    have X7 := Lib.hid (X6.out.trans hx7)
    have HO7 := Lib.hid ho7.row
    clear hx7 q0 q1 q2 q3 z6 HX6 HY6 HC6 HR6 X6 T6 b0' b1' ho7
    go_wp2_with fail
    refine (same3_refl _ _ _ _ cut _ HO7.out HC7.out hnc).mono ?_
    rintro e w8 ⟨rfl, hs8⟩
    have TU := Lib.hid (T7.out.ext hs8.ext)
    have HXU := Lib.hid (HX7.out.ext hs8.ext); have HYU := Lib.hid (HY7.out.ext hs8.ext)
    have XU := Lib.hid (X7.out.trans hs8.ext)
    clear hs8 HX7 HY7 HC7 X7 HO7 T7 HD
    obtain ⟨q0, q1, q2, q3, z8⟩ := TU.out; have zz8 := Nat.lt_of_succ_lt z8
    go_wp2_with fail
    refine (valid_yes num A c xs _ HXU.out hn HVV.out).mono ?_
    rintro e w9 ⟨rfl, hx9⟩
    have T9 := Lib.hid (TU.out.ext hx9)
    have HX9 := Lib.hid (HXU.out.ext hx9); have HY9 := Lib.hid (HYU.out.ext hx9)
    have X9 := Lib.hid (XU.out.trans hx9)
    clear hx9 q0 q1 q2 q3 HXU HYU XU TU
    obtain ⟨q0, q1, q2, q3, z9⟩ := T9.out; have zz9 := Nat.lt_of_succ_lt z9
    go_wp2_with fail
    refine (valid_no m B d ys _ HY9.out hm HWV.out).mono ?_
    rintro e w10 ⟨rfl, hx10⟩
    have T10 := Lib.hid (T9.out.ext hx10)
    have HX10 := Lib.hid (HX9.out.ext hx10); have HY10 := Lib.hid (HY9.out.ext hx10)
    have X10 := Lib.hid (X9.out.trans hx10)
    clear hx10 q0 q1 q2 q3 HX9 HY9 X9 T9
    obtain ⟨q0, q1, q2, q3, z10⟩ := T10.out; have zz10 := Nat.lt_of_succ_lt z10
    go_wp2_with fail
    refine (diff_c num m A B c d xs ys _ HX10.out HY10.out hn hm [] HDL.out).mono ?_
    rintro e w11 ⟨A11, c11, rfl, hc11, hm11, ho11, hx11⟩
    go_wp2
    go_ret
    exact ⟨rfl, X10.out.trans hx11⟩
  · have he' : (er == 0) = false := by simpa using he
    have TU := Lib.hid (T3.out.ext X4.out)
    have HXU := Lib.hid (HX3.out.ext X4.out); have HYU := Lib.hid (HY3.out.ext X4.out)
    have XU := Lib.hid (X3.out.trans X4.out)
    clear hN he HX3 HY3 HC3 HR3 X3 X4 T3
    go_wp2_with fail
    refine (valid_yes num A c xs _ HXU.out hn HVV.out).mono ?_
    rintro e w9 ⟨rfl, hx9⟩
    have T9 := Lib.hid (TU.out.ext hx9)
    have HX9 := Lib.hid (HXU.out.ext hx9); have HY9 := Lib.hid (HYU.out.ext hx9)
    have X9 := Lib.hid (XU.out.trans hx9)
    clear hx9 q0 q1 q2 q3 HXU HYU XU TU
    obtain ⟨q0, q1, q2, q3, z9⟩ := T9.out; have zz9 := Nat.lt_of_succ_lt z9
    go_wp2_with fail
    refine (valid_no m B d ys _ HY9.out hm HWV.out).mono ?_
    rintro e w10 ⟨rfl, hx10⟩
    have T10 := Lib.hid (T9.out.ext hx10)
    have HX10 := Lib.hid (HX9.out.ext hx10); have HY10 := Lib.hid (HY9.out.ext hx10)
    have X10 := Lib.hid (X9.out.trans hx10)
    clear hx10 q0 q1 q2 q3 HX9 HY9 X9 T9
    obtain ⟨q0, q1, q2, q3, z10⟩ := T10.out; have zz10 := Nat.lt_of_succ_lt z10
    go_wp2_with fail
    refine (diff_c num m A B c d xs ys _ HX10.out HY10.out hn hm [] HDL.out).mono ?_
    rintro e w11 ⟨A11, c11, rfl, hc11, hm11, ho11, hx11⟩
    go_wp2
    go_ret
    exact ⟨rfl, X10.out.trans hx11⟩

set_option maxRecDepth 100000 in
set_option maxHeartbeats 4000000 in
theorem walks (num m : Int) (A B Ac : Option Addr) (c d cc : Nat) (xs ys cut : List Int) (id : Int) (w : World) (hx : Row w A (ints xs)) (hy : Row w B (ints ys)) (hc : Row w Ac (ints cut)) (hn : xs.length ≤ 9223372036854775807) (hm : ys.length ≤ 9223372036854775807) (hnc : cut.length ≤ 9223372036854775807)
    (hs : smallB [(A, xs.length, c), (B, ys.length, d), (Ac, cut.length, cc)] = false) :
    Calls Try.prog 13 #[.agg #[.int .i64 num, .slice A xs.length c], .agg #[.int .i64 m, .slice B ys.length d], .slice Ac cut.length cc, .int .i64 id] w fun e w' => e = .returned (.bool true) ∧ Ext w w' := by
  have HSM := Lib.hid hs; have HUN := Lib.hid (And.intro hn (And.intro hm hnc))
  clear hs HUN
  have H0 := Lib.hid (twoBox_ext w num m (.slice A xs.length c) (.slice B ys.length d))
  have HX := Lib.hid (hx.ext H0.out); have HY := Lib.hid (hy.ext H0.out); have HC := Lib.hid (hc.ext H0.out)
  have T0 := Lib.hid (two_new w num m (.slice A xs.length c) (.slice B ys.length d))
  clear hx hy hc
  go_enter Try.func13, Try.ntmps13
  go_wp2_with fail
  refine (awake3_any _).mono ?_
  rintro e w1 ⟨rfl, hx1⟩
  have T1 := Lib.hid (Two.ext T0.out (by exact hx1))
  have HX1 := Lib.hid (Row.ext HX.out (by exact hx1)); have HY1 := Lib.hid (Row.ext HY.out (by exact hx1)); have HC1 := Lib.hid (Row.ext HC.out (by exact hx1))
  have X1 := Lib.hid (Ext.trans H0.out (by exact hx1))
  obtain ⟨q0, q1, q2, q3, z1⟩ := T1.out; have zz1 := Nat.lt_of_succ_lt z1
  clear hx1 HX HY HC H0 T0
  go_wp2_with fail
  have X2 := Lib.hid (Ext.new w1 (.cells #[.slice A xs.length c, .slice B ys.length d, .slice Ac cut.length cc] 22))
  refine (small3_any (some ⟨w1.heap.size, 0, none⟩) 3 [(A, xs.length, c), (B, ys.length, d), (Ac, cut.length, cc)] _ (row3s (by simp) (by simp) (by simp)) (by simp)).mono ?_
  rw [HSM.out]
  rintro e w2 ⟨rfl, rfl⟩
  go_wp2
  go_ret
  exact ⟨rfl, X1.out.trans X2.out⟩
theorem walk0 (num m : Int) (A B Ac : Option Addr) (c d cc : Nat) (xs ys cut : List Int) (id : Int) (w : World) (hx : Row w A (ints xs)) (hy : Row w B (ints ys)) (hc : Row w Ac (ints cut)) (hn : xs.length ≤ 9223372036854775807) (hm : ys.length ≤ 9223372036854775807) (hnc : cut.length ≤ 9223372036854775807) :
    Calls Try.prog 13 #[.agg #[.int .i64 num, .slice A xs.length c], .agg #[.int .i64 m, .slice B ys.length d], .slice Ac cut.length cc, .int .i64 id] w fun e w' => e = .returned (.bool true) ∧ Ext w w' := by
  cases hs : smallB [(A, xs.length, c), (B, ys.length, d), (Ac, cut.length, cc)]
  · exact walks num m A B Ac c d cc xs ys cut id w hx hy hc hn hm hnc hs
  · cases hv : validB num xs
    · exact walkn num m A B Ac c d cc xs ys cut id w hx hy hc hn hm hnc hs hv
    · cases hw : validB m ys
      · exact walkm num m A B Ac c d cc xs ys cut id w hx hy hc hn hm hnc hs hv hw
      · cases hi : hasB xs id <;> cases ho : hasB ys id
        · exact walkff num m A B Ac c d cc xs ys cut id w hx hy hc hn hm hnc hs hv hw hi ho
        · exact walkft num m A B Ac c d cc xs ys cut id w hx hy hc hn hm hnc hs hv hw hi ho
        · exact walktf num m A B Ac c d cc xs ys cut id w hx hy hc hn hm hnc hs hv hw hi ho
        · exact walktt num m A B Ac c d cc xs ys cut id w hx hy hc hn hm hnc hs hv hw hi ho

theorem walk (num : Int) (A : Option Addr) (c : Nat) (xs : List Int) {w : World} (_hi : I64 num) (hr : Row w A (ints xs)) (hc : xs.length ≤ c) (hm : c ≤ maxLen) (_hx : ∀ x ∈ xs, I64 x)
    (num2 : Int) (B : Option Addr) (d : Nat) (zs : List Int) (_hi2 : I64 num2) (hr2 : Row w B (ints zs)) (hc2 : zs.length ≤ d) (hm2 : d ≤ maxLen) (_hx2 : ∀ x ∈ zs, I64 x)
    (A' : Option Addr) (c' : Nat) (ys : List Int) (hr' : Row w A' (ints ys)) (hc' : ys.length ≤ c') (hm' : c' ≤ maxLen) (_hx' : ∀ x ∈ ys, I64 x) (id : Int) (_hid : I64 id) (W : World) (hW : w = W) :
    Calls Try.prog 13 #[.agg #[.int .i64 num, .slice A xs.length c], .agg #[.int .i64 num2, .slice B zs.length d], .slice A' ys.length c', .int .i64 id] W fun e w' => e = .returned (.bool true) ∧ Ext W w' := by
  subst hW; unfold maxLen at hm hm' hm2; exact walk0 num num2 A B A' c d c' xs zs ys id w hr hr2 hr' (by omega) (by omega) (by omega)


open Go.ChangeShapes Go.WideShapes Go.ChangeAt
set_option maxRecDepth 100000 in
theorem lifted (os : Os) (started : os.Started) (H : Type) (enc : TypeId × Value → H) :
    ReturnsInHanded {} Try.checked os 13 .any (Rows.viewDiffSpec.pre6 enc Try.prog Try.f13 Rows.viewDiffRow.domain false) (Rows.viewDiffSpec.post enc Try.prog Try.f13 false true false false) := by
  refine returnsInHanded_of_change (C := Try.checked) own started (by kernel_rfl) Try.func13
    (ChangeSpec.witness6 (enc := enc) (C := Try.checked) false ⟨#[], #[.agg #[.int .i64 0, .slice none 0 0], .agg #[.int .i64 0, .slice none 0 0], .slice none 0 0, .int .i64 0], []⟩ 8 (by kernel_rfl) (by kernel_rfl) (by kernel_rfl) (by kernel_rfl)) ?_
  intro W base args ds gs before hval0 hW hcnd _
  have hval : ∀ (j : Nat) t v, Try.f13.params[j]? = some t → args[j]? = some v → Value.okWide Try.prog W .any base t v := hval0
  have hW' := hW
  obtain ⟨p, q, hA0, hV, rfl, hfz, hnd⟩ := hW
  have hA : DataW.TrodAll enc Try.prog W 0 (fun _ => true) true Try.f13.params.toList args.toList ds p := hA0
  rw [Try.params13] at hA hval
  obtain ⟨v0, vs0, d0, ds0, p0, q0, hargs, rfl, rfl, h0, r0⟩ := trodAll_cons hA
  obtain ⟨v1, vs1, d1, ds1, p1, q1, rfl, rfl, rfl, h1, r1⟩ := trodAll_cons r0
  obtain ⟨v2, vs2, d2, ds2, p2, q2, rfl, rfl, rfl, h2, r2⟩ := trodAll_cons r1
  obtain ⟨v3, vs3, d3, ds3, p3, q3, rfl, rfl, rfl, h3, r3⟩ := trodAll_cons r2
  obtain ⟨rfl, rfl, rfl⟩ := trodAll_nil r3
  obtain rfl : args = #[v0, v1, v2, v3] := by cases args; simp_all
  obtain ⟨rfl, rfl⟩ := trodVars_none hV
  have lt0 : ∀ x ∈ p0, x.block < W.heap.size := by obtain ⟨m, hm⟩ := h0; exact DataW.trod_lt m _ _ _ hm
  have lt1 : ∀ x ∈ p1, x.block < W.heap.size := by obtain ⟨m, hm⟩ := h1; exact DataW.trod_lt m _ _ _ hm
  have lt2 : ∀ x ∈ p2, x.block < W.heap.size := by obtain ⟨m, hm⟩ := h2; exact DataW.trod_lt m _ _ _ hm
  have lt3 : ∀ x ∈ p3, x.block < W.heap.size := by obtain ⟨m, hm⟩ := h3; exact DataW.trod_lt m _ _ _ hm
  obtain ⟨n0, A0, c0, x0, e0, hi0, hc0, hm0, hr0, hx0⟩ := argView (hval 0 36 v0 rfl rfl) h0
  obtain ⟨n1, A1, c1, x1, e1, hi1, hc1, hm1, hr1, hx1⟩ := argView (hval 1 36 v1 rfl rfl) h1
  obtain ⟨A2, c2, x2, e2, hc2, hm2, hr2, hi2⟩ := argInts (hval 2 22 v2 rfl rfl) h2
  obtain ⟨n3, e3, hi3⟩ := argInt (hval 3 3 v3 rfl rfl) h3
  clear hA0 hval0
  have wk := walk n0 A0 c0 x0 hi0 hr0 hc0 hm0 hx0 n1 A1 c1 x1 hi1 hr1 hc1 hm1 hx1 A2 c2 x2 hr2 hc2 hm2 hi2 n3 hi3 W rfl
  rw [← e0, ← e1, ← e2, ← e3] at wk
  refine wk.mono fun e W' ⟨he, bel⟩ => ?_
  subst he
  exact ⟨_, rfl, _, _, _, [], _, [], hW', trodAll_mk1 (shut_bool Try.underlying4 _), (trodAll_cons_mk (Below.trod laidOut (by kernel_rfl) (of_decide_eq_true (by kernel_rfl)) h0 bel lt0) (trodAll_cons_mk (Below.trod laidOut (by kernel_rfl) (of_decide_eq_true (by kernel_rfl)) h1 bel lt1) (trodAll_cons_mk (Below.trod laidOut (by kernel_rfl) (of_decide_eq_true (by kernel_rfl)) h2 bel lt2) (trodAll_cons_mk (Below.trod laidOut (by kernel_rfl) (of_decide_eq_true (by kernel_rfl)) h3 bel lt3) trodAll_mk0)))), rfl, bel.frame _, fun h => by cases h⟩

theorem over : Rows.viewDiffRow.holds Try.pinned (OpenSpec.ofChange Rows.viewDiffSpec) :=
  OpenClaim.holds_of_wide 13 Try.f13 rfl rfl rfl rfl rfl rfl rfl ⟨rfl, rfl, rfl, rfl, rfl⟩ rfl rfl rfl rfl rfl (by kernel_rfl) Try.func13 (by kernel_rfl)
    (of_decide_eq_true (by kernel_rfl)) (by unfold Func.isWrapper; first | (rw [if_pos (by decide +kernel)]; kernel_rfl) | (rw [if_neg (by decide +kernel)]; exact ⟨rfl, rfl⟩))
    (fun os started H enc _ => lifted os started H enc)

/-- the statement -/
theorem proved : Rows.ViewDiffSaid := over
#print axioms proved
