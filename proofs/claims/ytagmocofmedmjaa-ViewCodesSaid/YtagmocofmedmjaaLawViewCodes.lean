/- For every input the statement ViewCodes returns true and leaves its arguments as they were. Conditions: none. -/
import Derived.Test.YtagmocofmedmjaaAwake3
import Derived.Test.YtagmocofmedmjaaSmall3
import Derived.Test.YtagmocofmedmjaaPlain3
import Derived.Test.YtagmocofmedmjaaConv
import Derived.Test.YtagmocofmedmjaaRowKit
import Derived.Deep.DrawnRows
namespace Go.Proofs.Ytagmocofmedmjaa.viewCodes
open Go.RowKit
attribute [local go_sem ↓] Go.wp_at_zero Go.wp_at_succ

theorem row2s {w : World} {b off n c n' c' : Nat} {a a' : Option Addr} (h0 : w.cell? ⟨b, off, none⟩ = some (.slice a n c)) (h1 : w.cell? ⟨b, off + 1, none⟩ = some (.slice a' n' c')) : Row w (some ⟨b, off, none⟩) (slV [(a, n, c), (a', n', c')]) := by
  intro _
  refine ⟨b, off, rfl, World.block_lt_of_cell? w _ h0, fun j v hj => ?_⟩
  match j, hj with
  | 0, hj => simp [slV] at hj; subst hj; exact h0
  | 1, hj => simp [slV] at hj; subst hj; exact h1

theorem same3_refl (A A' : Option Addr) (c c' : Nat) (xs : List Int) (w : World) (h : Row w A (ints xs)) (h' : Row w A' (ints xs)) (hn : xs.length ≤ 9223372036854775807) :
    Calls Try.prog 30 #[.slice A xs.length c, .slice A' xs.length c'] w fun e w' => e = .returned (.bool true) ∧ Still w w' := by
  have := same3_any A A' c c' xs xs w h h' hn
  rwa [show sameB xs xs = true by simp [sameB]] at this
theorem rsame_refl (n : Int) (A B : Option Addr) (c d : Nat) (xs : List Int) (w : World) (hx : Row w A (ints xs)) (hy : Row w B (ints xs)) (hn : xs.length ≤ 9223372036854775807) :
    Calls Try.prog 49 #[.agg #[.int .i64 n, .slice A xs.length c], .agg #[.int .i64 n, .slice B xs.length d]] w fun e w' => e = .returned (.bool true) ∧ Ext w w' := by
  have := rsame_any n n A B c d xs xs w hx hy hn
  rwa [show sameV n xs n xs = true by simp [sameV, sameB]] at this


theorem diffF_len (n m : Int) (xs ys : List Int) : (diffF n xs m ys).length ≤ 32 := by
  unfold diffF
  split
  · next h =>
    simp only [Bool.and_eq_true] at h
    have h1 := (validB_len h.1).2
    have h2 := (validB_len h.2).2
    rw [len_mergeL]
    have := among_len xs ys false
    have := among_len ys xs false
    omega
  · simp
theorem decV_len (bs : List UInt8) : (decV bs).2.1.length ≤ 16 := by
  have h := (decL_in (bs.drop (decU bs).2.1) 16).1
  unfold decV
  split
  · simp
  · split
    · simp
    · split
      · simp
      · split
        · simp
        · exact h

set_option maxRecDepth 100000 in
set_option maxHeartbeats 4000000 in
theorem walk0 (n1 n2 : Int) (A B D : Option Addr) (c c2 cd : Nat) (xs xs2 : List Int) (bs : List UInt8) (w : World) (hx : Row w A (ints xs)) (hy : Row w B (ints xs2)) (hd : Row w D (bytesV bs)) (hn : xs.length ≤ 9223372036854775807) (hm : xs2.length ≤ 9223372036854775807) (hbc : bs.length ≤ cd) (hbl : bs.length ≤ 9223372036854775807) :
    Calls Try.prog 12 #[.agg #[.int .i64 n1, .slice A xs.length c], .agg #[.int .i64 n2, .slice B xs2.length c2], .slice D bs.length cd] w fun e w' => e = .returned (.bool true) ∧ Ext w w' := by
  have H0 := Lib.hid (twoBox_ext w n1 n2 (.slice A xs.length c) (.slice B xs2.length c2))
  have HX := Lib.hid (hx.ext H0.out); have HY := Lib.hid (hy.ext H0.out); have HD := Lib.hid (hd.ext H0.out)
  clear hx hy hd
  go_enter Try.func12, Try.ntmps12
  go_wp2_with fail
  refine (awake3_any _).mono ?_
  rintro e w1 ⟨rfl, hx1⟩
  obtain ⟨q0, q1, q2, q3⟩ := twoBox_cells hx1
  have z1 : w.heap.size + 1 < w1.heap.size := by have := hx1.size; simp at this; omega
  have HX1 := Lib.hid (HX.out.ext hx1); have HY1 := Lib.hid (HY.out.ext hx1); have HD1 := Lib.hid (HD.out.ext hx1)
  have X1 := Lib.hid (H0.out.trans hx1)
  clear hx1 HX HY HD H0
  go_wp2_with fail
  have X2 := Lib.hid (Ext.new w1 (.cells #[.slice A xs.length c, .slice B xs2.length c2] 22))
  cases hs : smallB [(A, xs.length, c), (B, xs2.length, c2)]
  · refine (small3_any (some ⟨w1.heap.size, 0, none⟩) 2 [(A, xs.length, c), (B, xs2.length, c2)] _ (row2s (by simp) (by simp)) (by simp)).mono ?_
    rw [hs]
    rintro e w2 ⟨rfl, rfl⟩
    clear hs
    go_wp2
    go_ret
    exact ⟨rfl, X1.out.trans X2.out⟩
  · refine (small3_any (some ⟨w1.heap.size, 0, none⟩) 2 [(A, xs.length, c), (B, xs2.length, c2)] _ (row2s (by simp) (by simp)) (by simp)).mono ?_
    rw [hs]
    rintro e w2 ⟨rfl, rfl⟩
    clear hs
    by_cases hb : bs.length ≤ 1000
    · go_wp2_with fail
      refine (decode_any D cd bs _ (HD1.out.ext X2.out) hbc (by omega)).mono ?_
      have hyl0 := decV_len bs
      rintro e w3 ⟨A3, c3, rfl, hc3, hm3, ho3, hx3⟩
      have Y3 := Lib.hid (X2.out.trans hx3)
      have q0' : w3.cell? ⟨w.heap.size, 0, none⟩ = some (.int .i64 n1) := by rw [Y3.out.cell (by simp only; omega)]; exact q0
      have q1' : w3.cell? ⟨w.heap.size, 1, none⟩ = some (.slice A xs.length c) := by rw [Y3.out.cell (by simp only; omega)]; exact q1
      have q2' : w3.cell? ⟨w.heap.size + 1, 0, none⟩ = some (.int .i64 n2) := by rw [Y3.out.cell (by simp only; omega)]; exact q2
      have q3' : w3.cell? ⟨w.heap.size + 1, 1, none⟩ = some (.slice B xs2.length c2) := by rw [Y3.out.cell (by simp only; omega)]; exact q3
      have z3 : w.heap.size + 1 < w3.heap.size := by have := Y3.out.size; omega
      have HX3 := Lib.hid (HX1.out.ext Y3.out); have HY3 := Lib.hid (HY1.out.ext Y3.out); have HD3 := Lib.hid (HD1.out.ext Y3.out)
      have X3 := Lib.hid (X1.out.trans Y3.out)
      have HR3 := Lib.hid ho3.row
      clear hx3 q0 q1 q2 q3 z1 HX1 HY1 HD1 X2 X1 ho3 Y3
      go_wp2_with fail
      have X4 := Lib.hid (Ext.new w3 (.cells #[.int .i64 (decV bs).1, .slice A3 (decV bs).2.1.length c3] 36))
      refine (rdecode_any D cd bs _ (HD3.out.ext X4.out) hbc (by omega)).mono ?_
      generalize decV bs = r at *
      obtain ⟨n', ys, nb, er⟩ := r
      simp only at *
      rintro e w6 ⟨A6, c6, rfl, hc6, hm6, ho6, hx6⟩
      simp only at *
      have Y6 := Lib.hid (X4.out.trans hx6)
      have q0 : w6.cell? ⟨w.heap.size, 0, none⟩ = some (.int .i64 n1) := by rw [Y6.out.cell (by simp only; omega)]; exact q0'
      have q1 : w6.cell? ⟨w.heap.size, 1, none⟩ = some (.slice A xs.length c) := by rw [Y6.out.cell (by simp only; omega)]; exact q1'
      have q2 : w6.cell? ⟨w.heap.size + 1, 0, none⟩ = some (.int .i64 n2) := by rw [Y6.out.cell (by simp only; omega)]; exact q2'
      have q3 : w6.cell? ⟨w.heap.size + 1, 1, none⟩ = some (.slice B xs2.length c2) := by rw [Y6.out.cell (by simp only; omega)]; exact q3'
      have q4 : w6.cell? ⟨w3.heap.size, 0, none⟩ = some (.int .i64 n') := by simpa using hx6.cell_new 0
      have q5 : w6.cell? ⟨w3.heap.size, 1, none⟩ = some (.slice A3 ys.length c3) := by simpa using hx6.cell_new 1
      have z6 : w3.heap.size < w6.heap.size := by have := hx6.size; simp at this; omega
      have z7 : w.heap.size < w6.heap.size := by omega
      have z8 : w.heap.size + 1 < w6.heap.size := by omega
      have X7 := Lib.hid (Ext.drew (Ext.new w6 (.cells #[.int .i64 n', .slice A6 ys.length c6] 36)))
      have RX0 := Lib.hid ((HX3.out.ext Y6.out).ext X7.out); have RY0 := Lib.hid ((HY3.out.ext Y6.out).ext X7.out)
      have RP0 := Lib.hid ((HR3.out.ext Y6.out).ext X7.out); have RQ0 := Lib.hid (ho6.row.ext X7.out)
      have X8 := Lib.hid ((X3.out.trans Y6.out).trans X7.out)
      have hyl : ys.length ≤ 9223372036854775807 := by omega
      have hdl : (diffF n1 xs n2 xs2).length ≤ 9223372036854775807 := by have := diffF_len n1 n2 xs xs2; omega
      clear hx6 q0' q1' q2' q3' HX3 HY3 HD3 X4 X3 ho6 HR3 Y6 X7 hyl0
      go_wp2
      go_region_held (fun w' => w'.cell? ⟨w.heap.size, 0, none⟩ = some (.int .i64 n1) ∧ w'.cell? ⟨w.heap.size, 1, none⟩ = some (.slice A xs.length c) ∧ w'.cell? ⟨w.heap.size + 1, 0, none⟩ = some (.int .i64 n2) ∧ w'.cell? ⟨w.heap.size + 1, 1, none⟩ = some (.slice B xs2.length c2) ∧ w'.cell? ⟨w3.heap.size, 0, none⟩ = some (.int .i64 n') ∧ w'.cell? ⟨w3.heap.size, 1, none⟩ = some (.slice A3 ys.length c3) ∧ w'.cell? ⟨w6.heap.size, 0, none⟩ = some (.int .i64 n') ∧ w'.cell? ⟨w6.heap.size, 1, none⟩ = some (.slice A6 ys.length c6))
        (first | (go_keep; done) | (go_split_ands; (repeat' apply And.intro) <;> first | (go_keep; done) | (rw [hx6.cell (by simp only <;> omega)]; assumption) | (rw [hx5.cell (by simp only <;> omega)]; assumption) | (rw [hx4.cell (by simp only <;> omega)]; assumption) | (rw [hx3.cell (by simp only <;> omega)]; assumption) | (rw [hx2.cell (by simp only <;> omega)]; assumption) | (rw [hx1.cell (by simp <;> omega)]; assumption)))
        (first
        | (go_at_call 59; ((refine (encode_any _ _ _ _ _ (by exact RX0.out) hn).mono ?_); rintro e v1 ⟨B1, d1, rfl, hcd1, _, ho1, hx1⟩); have RX1 := Lib.hid (Row.ext (w := (w6.alloc (.cells #[.int .i64 n', .slice A6 ys.length c6] 36)).drew) RX0.out hx1); have RY1 := Lib.hid (Row.ext (w := (w6.alloc (.cells #[.int .i64 n', .slice A6 ys.length c6] 36)).drew) RY0.out hx1); have RP1 := Lib.hid (Row.ext (w := (w6.alloc (.cells #[.int .i64 n', .slice A6 ys.length c6] 36)).drew) RP0.out hx1); have RQ1 := Lib.hid (Row.ext (w := (w6.alloc (.cells #[.int .i64 n', .slice A6 ys.length c6] 36)).drew) RQ0.out hx1); have y1 : w6.heap.size < v1.heap.size := Nat.lt_of_lt_of_le (by simp) hx1.size; have XE1 := Lib.hid hx1; have cv1 := conv_bytes (w := v1) d1 _ ho1.row rfl; have SE1 := Lib.hid ho1.row)
        | (go_at_call 60; ((refine (rencode_any _ _ _ _ _ (by exact RX1.out) hn).mono ?_); rintro e v2 ⟨B2, d2, rfl, hcd2, _, ho2, hx2⟩); have RX2 := Lib.hid (Row.ext (w := v1) RX1.out hx2); have RY2 := Lib.hid (Row.ext (w := v1) RY1.out hx2); have RP2 := Lib.hid (Row.ext (w := v1) RP1.out hx2); have RQ2 := Lib.hid (Row.ext (w := v1) RQ1.out hx2); have y2 : w6.heap.size < v2.heap.size := Nat.lt_of_lt_of_le (by exact y1) hx2.size; have XE2 := Lib.hid (Ext.trans XE1.out hx2); have cv2 := conv_bytes (w := v2) d2 _ ho2.row rfl; have cw2 := conv_bytes (w := v2) d1 _ (Row.ext (w := v1) SE1.out hx2) rfl)
        | (go_at_call 49; ((refine (rsame_refl _ _ _ _ _ _ _ (by exact RP2.out) (by exact RQ2.out) hyl).mono ?_); rintro e v3 ⟨rfl, hx3⟩); have RX3 := Lib.hid (Row.ext (w := v2) RX2.out hx3); have RY3 := Lib.hid (Row.ext (w := v2) RY2.out hx3); have RP3 := Lib.hid (Row.ext (w := v2) RP2.out hx3); have RQ3 := Lib.hid (Row.ext (w := v2) RQ2.out hx3); have y3 : w6.heap.size < v3.heap.size := Nat.lt_of_lt_of_le (by exact y2) hx3.size; have XE3 := Lib.hid (Ext.trans XE2.out hx3))
        | (go_at_call 61; ((with_reducible refine (diff_any _ _ _ _ _ _ _ _ _ (by exact RX3.out) (by exact RY3.out) hn hm).mono ?_); rintro e v4 ⟨B4, d4, rfl, hcd4, _, ho4, hx4⟩); have RX4 := Lib.hid (Row.ext (w := v3) RX3.out hx4); have RY4 := Lib.hid (Row.ext (w := v3) RY3.out hx4); have RP4 := Lib.hid (Row.ext (w := v3) RP3.out hx4); have RQ4 := Lib.hid (Row.ext (w := v3) RQ3.out hx4); have y4 : w6.heap.size < v4.heap.size := Nat.lt_of_lt_of_le (by exact y3) hx4.size; have XE4 := Lib.hid (Ext.trans XE3.out hx4); have SD4 := Lib.hid ho4.row)
        | (go_at_call 62; ((refine (rdiff_any _ _ _ _ _ _ _ _ _ (by exact RX4.out) (by exact RY4.out) hn hm).mono ?_); rintro e v5 ⟨B5, d5, rfl, hcd5, _, ho5, hx5⟩); have RX5 := Lib.hid (Row.ext (w := v4) RX4.out hx5); have RY5 := Lib.hid (Row.ext (w := v4) RY4.out hx5); have RP5 := Lib.hid (Row.ext (w := v4) RP4.out hx5); have RQ5 := Lib.hid (Row.ext (w := v4) RQ4.out hx5); have y5 : w6.heap.size < v5.heap.size := Nat.lt_of_lt_of_le (by exact y4) hx5.size; have XE5 := Lib.hid (Ext.trans XE4.out hx5); have SD5' := Lib.hid (Row.ext (w := v4) SD4.out hx5); have SD5 := Lib.hid ho5.row)
        | (go_at_call 30; ((with_reducible refine (same3_refl _ _ _ _ (diffF n1 xs n2 xs2) _ (by exact SD5'.out) (by exact SD5.out) hdl).mono ?_); rintro e v6 ⟨rfl, hs6⟩; have hx6 := hs6.ext); have RX6 := Lib.hid (Row.ext (w := v5) RX5.out hx6); have RY6 := Lib.hid (Row.ext (w := v5) RY5.out hx6); have RP6 := Lib.hid (Row.ext (w := v5) RP5.out hx6); have RQ6 := Lib.hid (Row.ext (w := v5) RQ5.out hx6); have y6 : w6.heap.size < v6.heap.size := Nat.lt_of_lt_of_le (by exact y5) hx6.size; have XE6 := Lib.hid (Ext.trans XE5.out hx6)))
      all_goals go_wp2
      all_goals go_ret
      all_goals exact ⟨rfl, X8.out.trans XE6.out⟩
    · have hb' : 1000 < bs.length := by omega
      clear hb
      go_wp2
      go_ret
      exact ⟨rfl, X1.out.trans X2.out⟩

theorem walk (num : Int) (A : Option Addr) (c : Nat) (xs : List Int) {w : World} (_hi : I64 num) (hr : Row w A (ints xs)) (hc : xs.length ≤ c) (hm : c ≤ maxLen) (_hx : ∀ x ∈ xs, I64 x)
    (num' : Int) (A' : Option Addr) (c' : Nat) (xs' : List Int) (_hi' : I64 num') (hr' : Row w A' (ints xs')) (hc' : xs'.length ≤ c') (hm' : c' ≤ maxLen) (_hx' : ∀ x ∈ xs', I64 x)
    (D : Option Addr) (d : Nat) (bs : List UInt8) (hd : Row w D (bytesV bs)) (hdc : bs.length ≤ d) (hdm : d ≤ maxLen) (W : World) (hW : w = W) :
    Calls Try.prog 12 #[.agg #[.int .i64 num, .slice A xs.length c], .agg #[.int .i64 num', .slice A' xs'.length c'], .slice D bs.length d] W fun e w' => e = .returned (.bool true) ∧ Ext W w' := by
  subst hW; unfold maxLen at hm hm' hdm; exact walk0 num num' A A' D c c' d xs xs' bs w hr hr' hd (by omega) (by omega) hdc (by omega)

open Go.ChangeShapes Go.WideShapes Go.ChangeAt
set_option maxRecDepth 100000 in
theorem lifted (os : Os) (started : os.Started) (H : Type) (enc : TypeId × Value → H) :
    ReturnsInHanded {} Try.checked os 12 .any (Rows.viewCodesSpec.pre6 enc Try.prog Try.f12 Rows.viewCodesRow.domain false) (Rows.viewCodesSpec.post enc Try.prog Try.f12 false true false false) := by
  refine returnsInHanded_of_change (C := Try.checked) own started (by kernel_rfl) Try.func12
    (ChangeSpec.witness6 (enc := enc) (C := Try.checked) false ⟨#[], #[.agg #[.int .i64 0, .slice none 0 0], .agg #[.int .i64 0, .slice none 0 0], .slice none 0 0], []⟩ 8 (by kernel_rfl) (by kernel_rfl) (by kernel_rfl) (by kernel_rfl)) ?_
  intro W base args ds gs before hval0 hW hcnd _
  have hval : ∀ (j : Nat) t v, Try.f12.params[j]? = some t → args[j]? = some v → Value.okWide Try.prog W .any base t v := hval0
  have hW' := hW
  obtain ⟨p, q, hA0, hV, rfl, hfz, hnd⟩ := hW
  have hA : DataW.TrodAll enc Try.prog W 0 (fun _ => true) true Try.f12.params.toList args.toList ds p := hA0
  rw [Try.params12] at hA hval
  obtain ⟨v0, vs0, d0, ds0, p0, q0, hargs, rfl, rfl, h0, r0⟩ := trodAll_cons hA
  obtain ⟨v1, vs1, d1, ds1, p1, q1, rfl, rfl, rfl, h1, r1⟩ := trodAll_cons r0
  obtain ⟨v2, vs2, d2, ds2, p2, q2, rfl, rfl, rfl, h2, r2⟩ := trodAll_cons r1
  obtain ⟨rfl, rfl, rfl⟩ := trodAll_nil r2
  obtain rfl : args = #[v0, v1, v2] := by cases args; simp_all
  obtain ⟨rfl, rfl⟩ := trodVars_none hV
  have lt0 : ∀ x ∈ p0, x.block < W.heap.size := by obtain ⟨m, hm⟩ := h0; exact DataW.trod_lt m _ _ _ hm
  have lt1 : ∀ x ∈ p1, x.block < W.heap.size := by obtain ⟨m, hm⟩ := h1; exact DataW.trod_lt m _ _ _ hm
  have lt2 : ∀ x ∈ p2, x.block < W.heap.size := by obtain ⟨m, hm⟩ := h2; exact DataW.trod_lt m _ _ _ hm
  obtain ⟨n0, A0, c0, x0, e0, hi0, hc0, hm0, hr0, hx0⟩ := argView (hval 0 36 v0 rfl rfl) h0
  obtain ⟨n1, A1, c1, x1, e1, hi1, hc1, hm1, hr1, hx1⟩ := argView (hval 1 36 v1 rfl rfl) h1
  obtain ⟨A2, c2, x2, e2, hc2, hm2, hr2⟩ := argBytes (hval 2 54 v2 rfl rfl) h2
  clear hA0 hval0
  have wk := walk n0 A0 c0 x0 hi0 hr0 hc0 hm0 hx0 n1 A1 c1 x1 hi1 hr1 hc1 hm1 hx1 A2 c2 x2 hr2 hc2 hm2 W rfl
  rw [← e0, ← e1, ← e2] at wk
  refine wk.mono fun e W' ⟨he, bel⟩ => ?_
  subst he
  exact ⟨_, rfl, _, _, _, [], _, [], hW', trodAll_mk1 (shut_bool Try.underlying4 _), (trodAll_cons_mk (Below.trod laidOut (by kernel_rfl) (of_decide_eq_true (by kernel_rfl)) h0 bel lt0) (trodAll_cons_mk (Below.trod laidOut (by kernel_rfl) (of_decide_eq_true (by kernel_rfl)) h1 bel lt1) (trodAll_cons_mk (Below.trod laidOut (by kernel_rfl) (of_decide_eq_true (by kernel_rfl)) h2 bel lt2) trodAll_mk0))), rfl, bel.frame _, fun h => by cases h⟩

theorem over : Rows.viewCodesRow.holds Try.pinned (OpenSpec.ofChange Rows.viewCodesSpec) :=
  OpenClaim.holds_of_wide 12 Try.f12 rfl rfl rfl rfl rfl rfl rfl ⟨rfl, rfl, rfl, rfl, rfl⟩ rfl rfl rfl rfl rfl (by kernel_rfl) Try.func12 (by kernel_rfl)
    (of_decide_eq_true (by kernel_rfl)) (by unfold Func.isWrapper; first | (rw [if_pos (by decide +kernel)]; kernel_rfl) | (rw [if_neg (by decide +kernel)]; exact ⟨rfl, rfl⟩))
    (fun os started H enc _ => lifted os started H enc)

/-- the statement -/
theorem proved : Rows.ViewCodesSaid := over
#print axioms proved

end Go.Proofs.Ytagmocofmedmjaa.viewCodes
