/- For every input the statement ViewBack returns true and leaves its arguments as they were. Conditions: none. -/
import Derived.Test.YtagmocofmedmjaaAwake3
import Derived.Test.YtagmocofmedmjaaSmall3
import Derived.Test.YtagmocofmedmjaaPlain3
import Derived.Test.YtagmocofmedmjaaRowKit
namespace Go.Proofs.Ytagmocofmedmjaa.viewBack
open Go.RowKit

theorem row2s {w : World} {b off n c n' c' : Nat} {a a' : Option Addr} (h0 : w.cell? ⟨b, off, none⟩ = some (.slice a n c)) (h1 : w.cell? ⟨b, off + 1, none⟩ = some (.slice a' n' c')) : Row w (some ⟨b, off, none⟩) (slV [(a, n, c), (a', n', c')]) := by
  intro _
  refine ⟨b, off, rfl, World.block_lt_of_cell? w _ h0, fun j v hj => ?_⟩
  match j, hj with
  | 0, hj => simp [slV] at hj; subst hj; exact h0
  | 1, hj => simp [slV] at hj; subst hj; exact h1

set_option maxRecDepth 100000 in
set_option maxHeartbeats 1000000 in
theorem walk0 (num : Int) (A Ac : Option Addr) (c cc : Nat) (xs cut : List Int) (w : World) (hx : Row w A (ints xs)) (hc : Row w Ac (ints cut)) (hn : xs.length ≤ 9223372036854775807) (hnc : cut.length ≤ 9223372036854775807) :
    Calls Try.prog 5 #[.agg #[.int .i64 num, .slice A xs.length c], .slice Ac cut.length cc] w fun e w' => e = .returned (.bool true) ∧ Ext w w' := by
  have H0 := Lib.hid (Ext.new w (.cells #[.int .i64 num, .slice A xs.length c] 36))
  have HX := Lib.hid (hx.ext H0.out); have HC := Lib.hid (hc.ext H0.out)
  clear hx hc
  go_enter Try.func5, Try.ntmps5
  go_wp2_with fail
  refine (awake3_any _).mono ?_
  rintro e w1 ⟨rfl, hx1⟩
  have q0 : w1.cell? ⟨w.heap.size, 0, none⟩ = some (.int .i64 num) := by simpa using hx1.cell_new 0
  have q1 : w1.cell? ⟨w.heap.size, 1, none⟩ = some (.slice A xs.length c) := by simpa using hx1.cell_new 1
  have z1 : w.heap.size < w1.heap.size := by have := hx1.size; simp at this; omega
  have HX1 := Lib.hid (HX.out.ext hx1); have HC1 := Lib.hid (HC.out.ext hx1)
  have X1 := Lib.hid (H0.out.trans hx1)
  clear hx1 HX HC H0
  go_wp2_with fail
  have X2 := Lib.hid (Ext.new w1 (.cells #[.slice A xs.length c, .slice Ac cut.length cc] 22))
  by_cases hs : smallB [(A, xs.length, c), (Ac, cut.length, cc)] = true
  · refine (small3_any (some ⟨w1.heap.size, 0, none⟩) 2 [(A, xs.length, c), (Ac, cut.length, cc)] _ (row2s (by simp) (by simp)) (by simp)).mono ?_
    rw [hs]
    rintro e w2 ⟨rfl, rfl⟩
    clear hs
    go_wp2_with fail
    refine (next_any num A Ac c cc xs cut _ (HX1.out.ext X2.out) (HC1.out.ext X2.out) hn hnc).mono ?_
    rintro e w3 ⟨A3, c3, rfl, hc3, hm3, ho3, hx3⟩
    have q0' : w3.cell? ⟨w.heap.size, 0, none⟩ = some (.int .i64 num) := by rw [(X2.out.trans hx3).cell z1]; exact q0
    have q1' : w3.cell? ⟨w.heap.size, 1, none⟩ = some (.slice A xs.length c) := by rw [(X2.out.trans hx3).cell z1]; exact q1
    have z3 : w.heap.size < w3.heap.size := by have := (X2.out.trans hx3).size; omega
    have HX3 := Lib.hid (HX1.out.ext (X2.out.trans hx3)); have HC3 := Lib.hid (HC1.out.ext (X2.out.trans hx3))
    have X3 := Lib.hid (X1.out.trans (X2.out.trans hx3))
    have HR3 := Lib.hid ho3.row
    clear hx3 q0 q1 z1 HX1 HC1 X2 X1 ho3
    generalize hN : nextF num xs cut = r at *
    obtain ⟨n', ys, er⟩ := r
    simp only at *
    by_cases he : er = 0
    · subst he
      have HN := Lib.hid hN
      clear hN
      have hinv := nextF_inv HN.out
      have hyl : ys.length ≤ 16 := (validB_len hinv.2.2.2.2.2.2.2.2).2
      have hnum : 0 ≤ num ∧ num < 1099511627776 := ⟨(validB_num (okCut_iff.1 hinv.1).1).1, hinv.2.2.1⟩
      clear hinv
      go_wp2_with fail
      have X4 := Lib.hid (Ext.new w3 (.cells #[.int .i64 n', .slice A3 ys.length c3] 36))
      refine (next_any n' A3 Ac c3 cc ys cut _ (HR3.out.ext X4.out) (HC3.out.ext X4.out) (by omega) hnc).mono ?_
      rintro e w5 ⟨A5, c5, rfl, hc5, hm5, ho5, hx5⟩
      have q0 : w5.cell? ⟨w.heap.size, 0, none⟩ = some (.int .i64 num) := by rw [(X4.out.trans hx5).cell z3]; exact q0'
      have q1 : w5.cell? ⟨w.heap.size, 1, none⟩ = some (.slice A xs.length c) := by rw [(X4.out.trans hx5).cell z3]; exact q1'
      have z5 : w.heap.size < w5.heap.size := by have := (X4.out.trans hx5).size; omega
      have HX5 := Lib.hid (HX3.out.ext (X4.out.trans hx5))
      have X5 := Lib.hid (X3.out.trans (X4.out.trans hx5))
      have HR5 := Lib.hid ho5.row
      clear hx5 q0' q1' z3 HX3 HC3 X4 X3 ho5 HR3
      generalize hN5 : nextF n' ys cut = r at *
      obtain ⟨m, zs, er⟩ := r
      simp only at *
      by_cases he : er = 0
      · subst he
        have hb := next_back HN.out hN5
        have HZ := Lib.hid hb.2
        have hme : (m == num + 2) = true := by simpa using hb.1
        have hzl : zs.length ≤ 9223372036854775807 := by rw [hb.2]; exact hn
        clear hb hN5
        go_wp2_with fail
        have X6 := Lib.hid (Ext.new w5 (.cells #[.int .i64 m, .slice A5 zs.length c5] 36))
        refine (same3_any _ _ _ _ zs xs _ (HR5.out.ext X6.out) (HX5.out.ext X6.out) hzl).mono ?_
        have hsm : sameB zs xs = true := by simp [sameB, HZ.out]
        rw [hsm]
        rintro e w7 ⟨rfl, hs7⟩
        go_wp2
        go_ret
        exact ⟨rfl, X5.out.trans (X6.out.trans hs7.ext)⟩
      · have hb : (er != 0) = true := by simpa using he
        clear he hN5
        go_wp2
        go_ret
        exact ⟨rfl, X5.out.alloc _⟩
    · have hb : (er != 0) = true := by simpa using he
      clear he hN
      go_wp2
      go_ret
      exact ⟨rfl, X3.out.alloc _⟩
  · have hs' : smallB [(A, xs.length, c), (Ac, cut.length, cc)] = false := by simpa using hs
    refine (small3_any (some ⟨w1.heap.size, 0, none⟩) 2 [(A, xs.length, c), (Ac, cut.length, cc)] _ (row2s (by simp) (by simp)) (by simp)).mono ?_
    rw [hs']
    rintro e w2 ⟨rfl, rfl⟩
    clear hs hs'
    go_wp2
    go_ret
    exact ⟨rfl, X1.out.trans X2.out⟩

theorem walk (num : Int) (A : Option Addr) (c : Nat) (xs : List Int) {w : World} (_hi : I64 num) (hr : Row w A (ints xs)) (hc : xs.length ≤ c) (hm : c ≤ maxLen) (_hx : ∀ x ∈ xs, I64 x)
    (A' : Option Addr) (c' : Nat) (ys : List Int) (hr' : Row w A' (ints ys)) (hc' : ys.length ≤ c') (hm' : c' ≤ maxLen) (_hx' : ∀ x ∈ ys, I64 x) (W : World) (hW : w = W) :
    Calls Try.prog 5 #[.agg #[.int .i64 num, .slice A xs.length c], .slice A' ys.length c'] W fun e w' => e = .returned (.bool true) ∧ Ext W w' := by
  subst hW; unfold maxLen at hm hm'; exact walk0 num A A' c c' xs ys w hr hr' (by omega) (by omega)

open Go.ChangeShapes Go.WideShapes Go.ChangeAt
set_option maxRecDepth 100000 in
theorem lifted (os : Os) (started : os.Started) (H : Type) (enc : TypeId × Value → H) :
    ReturnsInHanded {} Try.checked os 5 .any (Rows.viewBackSpec.pre6 enc Try.prog Try.f5 Rows.viewBackRow.domain false) (Rows.viewBackSpec.post enc Try.prog Try.f5 false true false false) := by
  refine returnsInHanded_of_change (C := Try.checked) own started (by kernel_rfl) Try.func5
    (ChangeSpec.witness6 (enc := enc) (C := Try.checked) false ⟨#[], #[.agg #[.int .i64 0, .slice none 0 0], .slice none 0 0], []⟩ 8 (by kernel_rfl) (by kernel_rfl) (by kernel_rfl) (by kernel_rfl)) ?_
  intro W base args ds gs before hval0 hW hcnd _
  have hval : ∀ (j : Nat) t v, Try.f5.params[j]? = some t → args[j]? = some v → Value.okWide Try.prog W .any base t v := hval0
  have hW' := hW
  obtain ⟨p, q, hA0, hV, rfl, hfz, hnd⟩ := hW
  have hA : DataW.TrodAll enc Try.prog W 0 (fun _ => true) true Try.f5.params.toList args.toList ds p := hA0
  rw [Try.params5] at hA hval
  obtain ⟨v0, vs0, d0, ds0, p0, q0, hargs, rfl, rfl, h0, r0⟩ := trodAll_cons hA
  obtain ⟨v1, vs1, d1, ds1, p1, q1, rfl, rfl, rfl, h1, r1⟩ := trodAll_cons r0
  obtain ⟨rfl, rfl, rfl⟩ := trodAll_nil r1
  obtain rfl : args = #[v0, v1] := by cases args; simp_all
  obtain ⟨rfl, rfl⟩ := trodVars_none hV
  have lt0 : ∀ x ∈ p0, x.block < W.heap.size := by obtain ⟨m, hm⟩ := h0; exact DataW.trod_lt m _ _ _ hm
  have lt1 : ∀ x ∈ p1, x.block < W.heap.size := by obtain ⟨m, hm⟩ := h1; exact DataW.trod_lt m _ _ _ hm
  obtain ⟨n0, A0, c0, x0, e0, hi0, hc0, hm0, hr0, hx0⟩ := argView (hval 0 36 v0 rfl rfl) h0
  obtain ⟨A1, c1, x1, e1, hc1, hm1, hr1, hi1⟩ := argInts (hval 1 22 v1 rfl rfl) h1
  clear hA0 hval0
  have wk := walk n0 A0 c0 x0 hi0 hr0 hc0 hm0 hx0 A1 c1 x1 hr1 hc1 hm1 hi1 W rfl
  rw [← e0, ← e1] at wk
  refine wk.mono fun e W' ⟨he, bel⟩ => ?_
  subst he
  exact ⟨_, rfl, _, _, _, [], _, [], hW', trodAll_mk1 (shut_bool Try.underlying4 _), (trodAll_cons_mk (Below.trod laidOut (by kernel_rfl) (of_decide_eq_true (by kernel_rfl)) h0 bel lt0) (trodAll_cons_mk (Below.trod laidOut (by kernel_rfl) (of_decide_eq_true (by kernel_rfl)) h1 bel lt1) trodAll_mk0)), rfl, bel.frame _, fun h => by cases h⟩

theorem over : Rows.viewBackRow.holds Try.pinned (OpenSpec.ofChange Rows.viewBackSpec) :=
  OpenClaim.holds_of_wide 5 Try.f5 rfl rfl rfl rfl rfl rfl rfl ⟨rfl, rfl, rfl, rfl, rfl⟩ rfl rfl rfl rfl rfl (by kernel_rfl) Try.func5 (by kernel_rfl)
    (of_decide_eq_true (by kernel_rfl)) (by unfold Func.isWrapper; first | (rw [if_pos (by decide +kernel)]; kernel_rfl) | (rw [if_neg (by decide +kernel)]; exact ⟨rfl, rfl⟩))
    (fun os started H enc _ => lifted os started H enc)

/-- the statement -/
theorem proved : Rows.ViewBackSaid := over
#print axioms proved

end Go.Proofs.Ytagmocofmedmjaa.viewBack
